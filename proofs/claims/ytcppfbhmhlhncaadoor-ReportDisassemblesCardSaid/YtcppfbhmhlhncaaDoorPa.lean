/-
  Plain laws about the typed programs.
-/
import Derived.Test.YtcppfbhmhlhncaaDoorDc
import Derived.Test.YtcppfbhmhlhncaaDoorDxP
open Bool renaming not_true->aAj
open Int renaming tmod_eq_emod_of_nonneg->aAR,toNat_natCast->aAS,mul_le_mul_of_nonneg_left->aAf,emod_lt_of_pos->aAh,tdiv_eq_ediv_of_nonneg->aAi,ofNat_lt->aAm,dvd_of_emod_eq_zero->aAn,emod_nonneg->aAo,le_refl->aAp
open Go.IntKind renaming signed->aAV,bits->aAX,wrap->aAb
open List renaming length_append->aAA,mem_of_getElem?->aAB,length_cons->aAC,getElem?_eq_getElem->aAD,length_nil->aAE,getElem_mem->aAF,mem_singleton->aAG,length_singleton->aAH,getElem?_eq_some_iff->aAI,mem_append->aAJ,drop_eq_getElem_cons->aAL,mem_cons->aAM,drop_eq_nil_of_le->aAN,not_mem_nil->aAO,nil_append->aAQ,getElem?_append_left->aAT,mem_or_eq_of_mem_set->aAU,take_succ_eq_append_getElem->aAW,mem_of_mem_take->aAY,length_map->aAa,length_take->aAc,mem_iff_getElem?->aAd,mem_cons_of_mem->aAe,mem_cons_self->aAg,getElem?_append_right->aAk,cons_append->aAl,getElem?_set_self->aAr,map_cons->aAs,mem_map->aAt
open Nat renaming zero_le->aAK,le_refl->aAP,pow_le_pow_right->aAZ
open Option renaming bind_some->aA
open UInt8 renaming ofNat->aAq
namespace Go.Dw
section
variable {ι R α:Type} {body:ι->Option (ι⊕R)} {v:R}
@[simp] theorem TQ (l:List α) (i:Nat):ixO l (i:Int)=l[i]?:=by
 unfold ixO
 rw[if_neg (by omega)]
 simp
theorem YQ (l:List α) {i:Int} (h:0<=i):ixO l i=l[i.toNat]?:=by
 unfold ixO
 rw[if_neg (by omega)]
@[simp] theorem AeC (l:List α) (i:Nat):ixO l ((i:Int)+1)=l[i+1]?:=by
 have:=TQ l (i+1)
 simpa using this
@[simp] theorem AeD (l:List α):ixO l 0=l[0]?:=YQ l (aAp 0)
theorem wrap64 {n:Int} (h0: -9223372036854775808<=n) (h1:n<=9223372036854775807):IntKind.i64.wrap n=n:=AdR h0 h1
@[simp] theorem AeV:IntKind.i64.wrap 0=0:=by decide
@[simp] theorem AeW:IntKind.i64.wrap 1=1:=by decide
@[simp] theorem AeX:IntKind.i64.wrap 2=2:=by decide
@[simp] theorem AeY:IntKind.i64.wrap 3=3:=by decide
theorem QQ {i:Nat} (h:i<9223372036854775807):IntKind.i64.wrap ((i:Int)+1)=((i+1:Nat):Int):=by
 rw[wrap64 (by omega) (by omega)];rfl
@[simp] theorem XV (r:R):(lft (some r):Option (ι⊕R))=some (.inr r):=rfl
@[simp] theorem AeE:(lft none:Option (ι⊕R))=none:=rfl
@[simp] theorem VO (s:ι):(cnt s:Option (ι⊕R))=some (.inl s):=rfl
theorem Ady (a b:Int):WW a b=min a b:=by unfold WW;split<;>omega
end
theorem Ym {α β:Type} (f:α->β) {l:List α} {i:Nat} {x:α} (h:l[i]? =some x):(l.take (i+1)).map f=(l.take i).map f++[f x]:=by
 obtain⟨hl,rfl⟩:=aAI.1 h
 rw[aAW hl,List.map_append];rfl
open Go
def Hs {α:Type} (m:Option α) (P:α->Prop):Prop:=∃ r,m=some r/\P r
section
variable {α β ι R:Type}
theorem Hs.pure {a:α} {P:α->Prop} (h:P a):Hs (some a) P:=⟨a,rfl,h⟩
theorem Hs.bind {m:Option α} {f:α->Option β} {P:α->Prop} {Q:β->Prop} (h:Hs m P) (hf:∀ r,P r->Hs (f r) Q):Hs (m.bind f) Q:=by
 obtain⟨r,rfl,hr⟩:=h
 exact hf r hr
theorem Hs.mono {m:Option α} {P Q:α->Prop} (h:Hs m P) (hf:∀ r,P r->Q r):Hs m Q:=by
 obtain⟨r,h1,hr⟩:=h
 exact⟨r,h1,hf r hr⟩
theorem Hs.chk {p:Prop} [Decidable p] {m:Option α} {P:α->Prop} (hp:p) (h:Hs m P):Hs (chk p m) P:=by
 rw[Qs hp];exact h
theorem Hs.cond {b:Bool} {x y:Option α} {P:α->Prop} (h1:b=true->Hs x P) (h2:b=false->Hs y P):Hs (bif b then x else y) P:=by
 cases b
 ·exact h2 rfl
 ·exact h1 rfl
theorem Hs.dec {p:Prop} [Decidable p] {x y:Option α} {P:α->Prop} (h1:p->Hs x P) (h2:¬ p->Hs y P):Hs (bif decide p then x else y) P :=
 Hs.cond (λh=>h1 (of_decide_eq_true h)) (λh=>h2 (of_decide_eq_false h))
theorem Hs.beq {a b:Int} {x y:Option α} {P:α->Prop} (h1:a=b->Hs x P) (h2:a≠b->Hs y P):Hs (bif a==b then x else y) P :=
 Hs.cond (λh=>h1 (by simpa using h)) (λh=>h2 (by simpa using h))
theorem Hs.bne {a b:Int} {x y:Option α} {P:α->Prop} (h1:a≠b->Hs x P) (h2:a=b->Hs y P):Hs (bif a != b then x else y) P :=
 Hs.cond (λh=>h1 (by simpa using h)) (λh=>h2 (by simpa using h))
theorem Hs.cnt {s:ι} {P:ι⊕R->Prop} (h:P (.inl s)):Hs (Go.Dw.cnt s) P:=⟨_,rfl,h⟩
theorem Hs.lft {m:Option R} {P:ι⊕R->Prop} (h:Hs m λr=>P (.inr r)):Hs (Go.Dw.lft m) P:=by
 obtain⟨r,rfl,h⟩:=h
 exact⟨_,rfl,h⟩
def Rnd (I:ι->Prop) (μ:ι->Nat) (s:ι) (Q:R->Prop):ι⊕R->Prop
 | .inl s'=>I s'/\μ s'<μ s
 | .inr r=>Q r
theorem Hs.loop {body:ι->Option (ι⊕R)} {s:ι} {Q:R->Prop} (I:ι->Prop) (μ:ι->Nat) (h0:I s) (hb:∀ s,I s->Hs (body s) (Rnd I μ s Q)):Hs (Qv body s) Q:=by
 refine Aci I Q μ h0 λs hs=>?_
 obtain⟨z,hz,hq⟩:=hb s hs
 cases z with
 | inl s'=>exact .inl ⟨s',hz,hq⟩
 | inr r=>exact .inr ⟨r,hz,hq⟩
theorem Hs.get {l:List α} {i:Int} {P:α->Prop} (h0:0<=i) (h1:i<l.length) (h:∀ x,l[i.toNat]? =some x->P x):Hs (l[i.toNat]?) P:=by
 have:l[i.toNat]? =some (l[i.toNat]'(by omega)):=aAD _
 exact⟨_,this,h _ this⟩
theorem Hs.ix {l:List α} {i:Int} {P:α->Prop} (h0:0<=i) (h1:i<l.length) (h:∀ x,l[i.toNat]? =some x->P x):Hs (ixO l i) P:=by
 rw[YQ _ h0];exact Hs.get h0 h1 h
end
theorem Aav (n:Int):0<=IntKind.u64.wrap n/\IntKind.u64.wrap n<18446744073709551616:=by
 simp[aAb,aAV,aAX];omega
end Go.Dw
namespace Go.Proofs.YtcppfbhmhlhncaaDoor
open Go Go.Dw Go.Proofs
theorem Aeo (u:Nat):YJ ([IntKind.u8.wrap (IntKind.u64.wrap (48+((u:Int).tmod 10)))]:List Int)=[aAq (48+u % 10)]:=by
 have e:IntKind.u8.wrap (IntKind.u64.wrap (48+((u:Int).tmod 10)))=((48+u % 10:Nat):Int):=by
  have:(u:Int).tmod 10=((u % 10:Nat):Int):=by rw[aAR (by omega)];omega
  rw[this]
  simp[aAb,aAV,aAX];omega
 rw[e]
 show[aAq ((48+u % 10:Nat):Int).toNat]=_
 rw[aAS]
theorem AaX (u:Nat) (s:List UInt8) (h2:u<18446744073709551616) (hs:s.length<=100) :
  SA (u:Int) s=if u<10 then some (.inr (aAq (48+u)::s))else some (.inl (((u / 10:Nat):Int),aAq (48+u % 10)::s)):=by
 have e0:(u:Int).tdiv 10=((u / 10:Nat):Int):=by rw[aAi (by omega)];omega
 have e1:IntKind.u64.wrap ((u:Int).tdiv 10)=((u / 10:Nat):Int):=by
  rw[e0];simp[aAb,aAV,aAX];omega
 unfold SA
 rw[Aeo,e1,Qs (by simp;omega)]
 by_cases h':u<10
 ·have hb:(((u / 10:Nat):Int)==0)=true:=by simp;omega
  rw[hb,cond_true,if_pos h',XV,Nat.mod_eq_of_lt h']
  rfl
 ·have hb:(((u / 10:Nat):Int)==0)=false:=by simp;omega
  rw[hb,cond_false,if_neg h',VO]
  rfl
theorem AaY:∀ (k u:Nat) (s:List UInt8),u<10 ^ (k+1)->u<18446744073709551616->s.length+k<=100->Qv (λs=>SA s.1 s.2) ((u:Int),s)=some (Lib.decDigits u++s):=by
 intro k
 induction k with
 | zero =>
  intro u s h h2 hs
  have h':u<10:=by simpa using h
  rw[Rp]
  dsimp only
  rw[AaX u s h2 (by omega),if_pos h',Lib.decDigits,dif_pos h']
  rfl
 | succ k ih =>
  intro u s h h2 hs
  rw[Rp]
  dsimp only
  rw[AaX u s h2 (by omega),Lib.decDigits]
  by_cases h':u<10
  ·rw[if_pos h',dif_pos h']
   rfl
  ·rw[if_neg h',dif_neg h']
   dsimp only
   rw[ih (u / 10) _ (by rw[Nat.pow_succ]at h;omega) (by omega) (by simp;omega)]
   simp
theorem XR {u:Nat} (h:u<18446744073709551616):Sr (u:Int)=some (Lib.decDigits u):=by
 unfold Sr
 rw[AaY 20 u [] (by omega) h (by simp)]
 simp
theorem Vv:∀ (k u:Nat),u<10 ^ (k+1)->(Lib.decDigits u).length<=k+1:=by
 intro k
 induction k with
 | zero=>intro u h;rw[Lib.decDigits,dif_pos (by simpa using h)];simp
 | succ k ih =>
  intro u h
  by_cases h':u<10
  ·rw[Lib.decDigits,dif_pos h'];simp
  ·rw[Lib.decDigits,dif_neg h']
   have:=ih (u / 10) (by rw[Nat.pow_succ]at h;omega)
   simp;omega
def R64 (n:Int):Prop:=-9223372036854775808<=n/\n<=9223372036854775807
theorem Uf {n:Int} (h:R64 n):(Lib.itoa n).length<=21:=by
 have h1:=h.1;have h2:=h.2
 unfold Lib.itoa
 split
 ·have:=Vv 19 n.natAbs (by omega)
  simp;omega
 ·have:=Vv 19 n.toNat (by omega)
  omega
theorem AaB {n:Int} (h:R64 n):VA n=some (Lib.itoa n):=by unfold VA;exact Qs h
theorem int_eq {n:Int} (h:R64 n):Ta n=some (Lib.itoa n):=by
 have h1:=h.1;have h2:=h.2
 unfold Ta Lib.itoa
 by_cases hn:n<0
 ·have e:IntKind.u64.wrap (0-IntKind.u64.wrap n)=((n.natAbs:Nat):Int):=by simp[aAb,aAV,aAX];omega
  have:=Vv 19 n.natAbs (by omega)
  simp only[hn,decide_true,cond_true,if_true,e,XR (show n.natAbs<18446744073709551616 by omega),aA]
  rw[Qs (by simp;omega)]
  rfl
 ·have e:IntKind.u64.wrap n=((n.toNat:Nat):Int):=by simp[aAb,aAV,aAX];omega
  simp only[hn,decide_false,cond_false,if_false,e,XR (show n.toNat<18446744073709551616 by omega),aA]
theorem AaA {u:Int} (h0:0<=u) (h1:u<18446744073709551616):Vz u 10=some (Lib.decDigits u.toNat):=by
 unfold Vz;rw[Qs ⟨h0,h1⟩,Qs rfl]
theorem Abs {u:Int} (h0:0<=u) (h1:u<18446744073709551616):Sr u=some (Lib.decDigits u.toNat):=by
 have:=XR (u:=u.toNat) (by omega)
 rwa[show((u.toNat:Nat):Int)=u by omega]at this
theorem ZU {u:Int} (h0:0<=u) (h1:u<18446744073709551616):(Lib.decDigits u.toNat).length<=20:=Vv 19 _ (by omega)
def ZD (x:Ed) (i:Nat):Int:=([x.A,x.B,x.C])[i]?.getD 0
def XN (x:Ed) (c:UInt8) (i:Nat):List UInt8:=if c=35 then Lib.decDigits x.Imm.toNat else c::Lib.itoa (ZD x i)
def UY (x:Ed):List UInt8->Nat->List (List UInt8)
 | [],_=>[]
 | c::cs,i=>XN x c i::UY x cs (i+1)
theorem Acq (x:Ed) (i:Nat) (h:i<3):((SM.mk x.A x.B x.C).toList)[i]? =some (ZD x i):=by
 rcases i with _|_|_|i
 ·rfl
 ·rfl
 ·rfl
 ·omega
structure X07 (x:Ed):Prop where
 a:R64 x.A
 b:R64 x.B
 c:R64 x.C
 i0:0<=x.Imm
 i1:x.Imm<18446744073709551616
variable {x:Ed}
theorem X07.num (h:X07 x) (i:Nat):R64 (ZD x i):=by
 have:=h.a;have:=h.b;have:=h.c
 unfold ZD
 match i with
 | 0=>exact h.a
 | 1=>exact h.b
 | 2=>exact h.c
 | n+3=>exact⟨show(-9223372036854775808:Int)<=0 by decide,show(0:Int)<=9223372036854775807 by decide⟩
theorem X07.word (h:X07 x) (c:UInt8) (i:Nat):(XN x c i).length<=22:=by
 unfold XN
 split
 ·have:=ZU h.i0 h.i1;omega
 ·have:=Uf (h.num i);simp;omega
def AbH (f:List UInt8):Prop:=∀ i (h:i<f.length),Vm f i=(f[i].toNat,1)/\YC (f[i].toNat:Int)=[f[i]]/\((f[i].toNat:Int)==35)=decide (f[i]=35)
theorem Adw (n:Nat):∀ ws:List (List UInt8),(∀ w∈ws,w.length<=n)->Lib.lens ws<=n*ws.length:=by
 intro ws
 induction ws with
 | nil=>intro _;simp[Lib.lens]
 | cons w ws ih =>
  intro h
  have h1:=h w (aAg ..)
  have h2:=ih λv hv=>h v (aAe _ hv)
  simp only[Lib.lens,aAC,Nat.mul_add,aAs,List.sum_cons]at h2 ⊢
  omega
theorem Aed (ws:List (List UInt8)) (h:∀ w∈ws,w.length<=22) (hl:ws.length<=10):AaS ws [32]=some (Lib.join ws [32]):=by
 unfold AaS
 rw[Qs (by omega),Qs]
 cases ws with
 | nil=>simp[Lib.join_nil]
 | cons w ws =>
  rw[Lib.join_length]
  have:=Adw 22 (w::ws) h
  simp only[aAC,aAE]at this hl ⊢
  omega
theorem AbZ (h:X07 x) (f:List UInt8) (hf:AbH f) (h3:f.length<=3):∀ (k i:Nat) (ws:List (List UInt8)),i+k=f.length->(∀ w∈ws,w.length<=22)->ws.length+k<=10 ->
  Qv (λs=>RV x s.1 s.2) (ws,(f,i))=some (Lib.join (ws++UY x (f.drop i) i) [32]):=by
 intro k
 induction k with
 | zero =>
  intro i ws hi hw hl
  rw[Rp]
  have hb:Nat.blt i f.length=false:=by rw[<- Bool.not_eq_true,Nat.blt_eq];omega
  simp only[RV,hb,cond_false,Aed ws hw (by omega),aA,XV]
  rw[aAN (by omega)]
  simp[UY]
 | succ k ih =>
  intro i ws hi hw hl
  have hlt:i<f.length:=by omega
  obtain⟨d1,d2,d3⟩:=hf i hlt
  have hb:Nat.blt i f.length=true:=by rw[Nat.blt_eq];omega
  have step:RV x ws (f,i)=some (.inl (ws++[XN x f[i] i],(f,i+1))):=by
   simp only[RV,hb,cond_true,d1,d3,itN,d2]
   by_cases hc:f[i]=35
   ·simp only[hc,decide_true,cond_true,AaA h.i0 h.i1,aA]
    rw[Qs (by simp only[aAC,aAE];omega)]
    simp only[XN,if_true,VO]
   ·simp only[hc,decide_false,cond_false]
    have hn:((SM.mk x.A x.B x.C).toList)[i]? =some (ZD x i):=by
     have:i<3:=by omega
     exact Acq x i this
    have:=Uf (h.num i)
    rw[Qs (by omega),aAS,hn,aA,AaB (h.num i),aA,Qs (by simp only[aAC,aAE];omega),Qs (by simp only[aAC,aAE];omega)]
    simp only[XN,hc,if_false,VO,aAl,aAQ]
  rw[Rp]
  dsimp only
  rw[step]
  dsimp only
  rw[ih (i+1) _ (by omega) (λw hw'=>by
   rcases aAJ.1 hw' with hw'|hw'
   ·exact hw w hw'
   ·obtain rfl:=aAG.1 hw'
    exact h.word _ _) (by simp;omega),aAL hlt]
  simp[UY]
theorem Abv:∀ f∈TI,AbH f/\f.length<=3:=by
 have:∀ f∈TI,f.length<=3/\∀ i:Fin f.length,Vm f i=(f[i].toNat,1)/\YC (f[i].toNat:Int)=[f[i]]/\((f[i].toNat:Int)==35)=decide (f[i]=35):=by decide +kernel
 exact λf hf=>⟨λi h=>(this f hf).2 ⟨i,h⟩,(this f hf).1⟩
theorem Aco:∀ f∈SD,f.length<=22:=by decide
theorem AcV (h:X07 x) {k:Nat} (hk:x.Op=k) {nm f:List UInt8} (h1:SD[k]? =some nm) (h2:TI[k]? =some f):Uo x=some (Lib.join (nm::UY x f 0) [32]):=by
 have hlt:k<25:=(aAI.1 h1).1
 have n1:¬ x.Op<0:=by omega
 have n2:¬ x.Op>=25:=by omega
 unfold Uo Um
 simp only[n1,n2,decide_false,cond_false]
 obtain⟨p1,p2⟩:=Abv f (aAB h2)
 rw[Qs (by omega),show x.Op.toNat=k by omega,h1,aA,Qs (by omega),h2,aA,AbZ h f p1 p2 f.length 0 [nm] (by omega) (by intro w hw;obtain rfl:=aAG.1 hw;exact Aco _ (aAB h1)) (by simp;omega)]
 rfl
open Go Go.Dw Go.Proofs
def Vu:List (List UInt8)->Nat->List UInt8
 | [],_=>[]
 | w::ws,i=>(if i=0 then[]else[32])++w++Vu ws (i+1)
def Va:Mk->List UInt8
 | .i n=>Lib.itoa n
 | .u n=>Lib.decDigits n.toNat
 | .s l=>l
def VOk:Mk->Prop
 | .i n=>R64 n
 | .u n=>0<=n/\n<18446744073709551616
 | .s l=>l.length<=20
theorem VOk.len {v:Mk} (h:VOk v):(Va v).length<=21:=by
 cases v with
 | i n=>exact Uf h
 | u n=>have:=ZU h.1 h.2;simp only[Va];omega
 | s l=>simp only[Va,VOk]at h ⊢;omega
theorem AaU:∀ {ws:List (List UInt8)} {i:Nat},(∀ w∈ws,w.length<=21)->(Vu ws i).length<=22*ws.length
 | [],_,_=>by simp[Vu]
 | w::ws,i,h=>by
  have h1:=h w (aAg ..)
  have h2:=AaU (i:=i+1) λv hv=>h v (aAe _ hv)
  simp only[Vu,aAA,aAC]at h2 ⊢
  split<;>simp<;>omega
def So (l:List Mk):List UInt8:=Vu (l.map Va) 0++[10]
theorem Xl {l:List Mk} (h:∀ v∈l,VOk v):(So l).length<=22*l.length+1:=by
 have:=AaU (ws:=l.map Va) (i:=0) λw hw=>by obtain⟨v,hv,rfl⟩:=aAt.1 hw;exact(h v hv).len
 simp only[So,aAA,aAa,aAH]at this ⊢;omega
theorem Vt {R:Type} {body:List UInt8×Int->Option ((List UInt8×Int)⊕R)} {l:List Mk} {K:List UInt8->Option R} {j:Mk->Int->List UInt8->Option ((List UInt8×Int)⊕R)} (hl:l.length<=10) (hv:∀ v∈l,VOk v)
  (hj:∀ e i o,j e i o=anyM e (λn=>(VA n).bind λr=>chk (o.length+r.length<=16777216)<|cnt (o++r,IntKind.i64.wrap (i+1))) (λn=>(Vz n 10).bind λr=>chk (o.length+r.length<=16777216)<|cnt (o++r,IntKind.i64.wrap (i+1))) (λs=>chk (o.length+s.length<=16777216)<|cnt (o++s,IntKind.i64.wrap (i+1))))
  (hb:∀ o i,body (o,i)=bif decide (i<(l.length:Int))then
   chk (0<=i/\i<l.length)<|(l[i.toNat]?).bind λe=>bif decide (i>0)then chk (o.length+1<=16777216)<|j e i (o++[32])else j e i o
   else lft (chk (o.length+1<=16777216)<|K (o++[10]))) {o:List UInt8} (ho:o.length<=16700000):Qv body (o,0)=K (o++So l):=by
 have hone:∀ e i o,VOk e->o.length<=16710000->j e i o=some (.inl (o++Va e,IntKind.i64.wrap (i+1))):=by
  intro e i o he ho
  have:=he.len
  rw[hj]
  cases e with
  | i n=>simp only[anyM,AaB he,aA,Va]at this ⊢;rw[Qs (by omega)];rfl
  | u n=>simp only[anyM,AaA he.1 he.2,aA,Va]at this ⊢;rw[Qs (by omega)];rfl
  | s l=>simp only[anyM,Va]at this ⊢;rw[Qs (by omega)];rfl
 have key:∀ (d k:Nat) (o:List UInt8),k+d=l.length->o.length+d*22<=16700220->Qv body (o,(k:Int))=K (o++(Vu ((l.drop k).map Va) k++[10])):=by
  intro d
  induction d with
  | zero =>
   intro k o hk ho
   rw[Rp,hb,decide_eq_false (by omega),cond_false,Qs (by omega),aAN (by omega)]
   simp only[List.map_nil,Vu,aAQ]
   cases K (o++[10])<;>rfl
  | succ d ih =>
   intro k o hk ho
   have hlt:k<l.length:=by omega
   have hvk:=hv l[k] (aAF _)
   have hlen:=hvk.len
   rw[Rp,hb,decide_eq_true (by omega),cond_true,Qs (by omega),aAS,aAD hlt,aA,aAL hlt,aAs,Vu]
   by_cases h0:k=0
   ·subst h0
    rw[decide_eq_false (by omega),cond_false,hone _ _ _ hvk (by omega),QQ (by omega)]
    dsimp only
    rw[ih 1 _ (by omega) (by simp;omega)]
    simp
   ·rw[decide_eq_true (by omega),cond_true,Qs (by omega),hone _ _ _ hvk (by simp;omega),QQ (by omega)]
    dsimp only
    rw[ih (k+1) _ (by omega) (by simp;omega)]
    simp[h0]
 have:=key l.length 0 o (by omega) (by omega)
 simpa[So]using this
def TS (x:Ed) (n:Nat) (imm:Bool):List Mk:=(([x.A,x.B,x.C]:List Int).take n).map Mk.i++(bif imm then[Mk.u x.Imm]else[])
noncomputable def VR (x:Ed):List Mk :=
 if x.Op<0\/x.Op>=25 then[.s [63]]else .s ((SD[x.Op.toNat]?).getD [])::TS x (((Rf x.Op).getD (0,false)).1.toNat) ((Rf x.Op).getD (0,false)).2
noncomputable def Adm (k:Nat):Bool :=
 match Rf k,SD[k]?,TI[k]? with
 | some (n,_),some m,some f=>decide (0<=n)&&decide (n<=3)&&decide (m.length<=20)&&match Vk (Lib.join (m::UY ⟨k,0,0,0,0⟩ f 0) [32]) [32]with
  | some (w,_,_)=>w==m
  | none=>false
 | _,_,_=>false
theorem Adg:∀ k:Fin 25,Adm k=true:=by decide +kernel
theorem Abp {k:Nat} (hk:k<25):∃ n b m f r,Rf k=some (n,b)/\SD[k]? =some m/\TI[k]? =some f/\0<=n/\n<=3/\m.length<=20/\Vk (Lib.join (m::UY ⟨k,0,0,0,0⟩ f 0) [32]) [32]=some (m,r):=by
 have h:=Adg ⟨k,hk⟩
 unfold Adm at h
 dsimp only at h
 split at h
 ·rename_i n b m f e1 e2 e3
  simp only[Bool.and_eq_true,decide_eq_true_eq]at h
  obtain⟨⟨⟨h1,h2⟩,h3⟩,h4⟩:=h
  split at h4
  ·rename_i w r1 r2 e4
   have:w=m:=by simpa using h4
   subst this
   exact⟨n,b,w,f,(r1,r2),e1,e2,e3,h1,h2,h3,e4⟩
  ·cases h4
 ·cases h
theorem ZW {x:Ed} {k:Nat} (hk:x.Op=k) (hlt:k<25) {n:Int} {b:Bool} {m:List UInt8} (h1:Rf k=some (n,b)) (h2:SD[k]? =some m):VR x= .s m::TS x n.toNat b:=by
 unfold VR
 rw[if_neg (by omega),hk,h1,aAS,h2];rfl
theorem AbJ {x:Ed} (h:X07 x):(∀ v∈VR x,VOk v)/\(VR x).length<=5:=by
 have h0:∀ n b,(∀ v∈TS x n b,VOk v)/\(TS x n b).length<=4:=by
  intro n b
  refine⟨λv hv=>?_,?_⟩
  ·rcases aAJ.1 hv with hv|hv
   ·obtain⟨i,hi,rfl⟩:=aAt.1 hv
    have:=aAY hi
    simp only[aAM,aAO,or_false]at this
    rcases this with rfl|rfl|rfl
    ·exact h.a
    ·exact h.b
    ·exact h.c
   ·cases b
    ·simp at hv
    ·obtain rfl:=aAG.1 hv;exact⟨h.i0,h.i1⟩
  ·unfold TS
   have:(([x.A,x.B,x.C]:List Int).take n).length<=3:=by simp only[aAc,aAC,aAE];omega
   cases b<;>simp only[aAA,aAa,cond_true,cond_false,aAH,aAE]<;>omega
 by_cases hr:x.Op<0\/x.Op>=25
 ·have e:VR x=[.s [63]]:=if_pos hr
  rw[e];simp[VOk]
 ·obtain⟨n,b,m,f,r,h1,h2,_,_,_,h5,_⟩:=Abp (k:=x.Op.toNat) (by omega)
  rw[ZW (k:=x.Op.toNat) (by omega) (by omega) h1 h2]
  obtain⟨h6,h7⟩:=h0 n.toNat b
  exact⟨λv hv=>(aAM.1 hv).elim (λe=>e▸h5) (h6 v),by simp;omega⟩
noncomputable def VQ:List Ed->List UInt8
 | []=>[]
 | x::xs=>So (VR x)++VQ xs
noncomputable def frL:List Qk->List UInt8
 | []=>[]
 | f::fs=>So [.s [102,114,97,109,101],.i f.Params,.i f.Size]++VQ f.Code++frL fs
noncomputable def ZP (t:Pw):List UInt8:=So [.s [97,108,105,103,110],.i t.Align]++frL t.Frames
structure ZT (f:Qk):Prop where
 p:R64 f.Params
 s:R64 f.Size
 x:∀ x∈f.Code,X07 x
 n:f.Code.length<=300
structure Wo (t:Pw):Prop where
 a:R64 t.Align
 f:∀ f∈t.Frames,ZT f
 n:t.Frames.length<=300
theorem Zt {x:Ed} (h:X07 x):(So (VR x)).length<=111:=by
 have:=Xl (AbJ h).1
 have:=(AbJ h).2
 omega
theorem Zs:∀ {xs:List Ed},(∀ x∈xs,X07 x)->(VQ xs).length<=111*xs.length
 | [],_=>by simp[VQ]
 | x::xs,h=>by
  have h1:=Zt (h x (aAg ..))
  have h2:=Zs λv hv=>h v (aAe _ hv)
  simp only[VQ,aAA,aAC];omega
theorem ZV {f:Qk} (h:ZT f):∀ v∈([.s [102,114,97,109,101],.i f.Params,.i f.Size]:List Mk),VOk v:=by
 intro v hv
 simp only[aAM,aAO,or_false]at hv
 rcases hv with rfl|rfl|rfl
 ·simp[VOk]
 ·exact h.p
 ·exact h.s
open Go Go.Dw Go.Proofs
theorem Aeu (x:Ed) {k:Nat} (hk:k<3):∃ a,([x.A,x.B,x.C]:List Int)[k]? =some a/\(([x.A,x.B,x.C]:List Int).take (k+1)).map Mk.i=(([x.A,x.B,x.C]:List Int).take k).map Mk.i++[Mk.i a]:=by
 match k,hk with
 | 0,_=>exact⟨_,rfl,rfl⟩
 | 1,_=>exact⟨_,rfl,rfl⟩
 | 2,_=>exact⟨_,rfl,rfl⟩
theorem Ada {x:Ed} (hx:X07 x) {n:Nat} (hn:n<=3) {b:Bool} {m:List UInt8} (hm:m.length<=20) (i:Int) {o:List UInt8} (ho:o.length<=16700000) :
  Qv (λs=>Re ((n:Int),b) x i o s.1 s.2) (([Mk.s m]:List Mk),0)=some (.inl (o++So (.s m::TS x n b),IntKind.i64.wrap (i+1))):=by
 have hl3:∀ k,((([x.A,x.B,x.C]:List Int).take k).map Mk.i).length<=3:=λk=>by simp only[aAa,aAc,aAC,aAE];omega
 have hall:∀ k,∀ v∈(.s m::(([x.A,x.B,x.C]:List Int).take k).map Mk.i:List Mk),VOk v:=by
  intro k v hv
  rcases aAM.1 hv with rfl|hv
  ·exact hm
  ·obtain⟨a,ha,rfl⟩:=aAt.1 hv
   have:=aAY ha
   simp only[aAM,aAO,or_false]at this
   rcases this with rfl|rfl|rfl
   ·exact hx.a
   ·exact hx.b
   ·exact hx.c
 have key:∀ (d k:Nat),k+d=n->Qv (λs=>Re ((n:Int),b) x i o s.1 s.2) (.s m::(([x.A,x.B,x.C]:List Int).take k).map Mk.i,(k:Int))=some (.inl (o++So (.s m::TS x n b),IntKind.i64.wrap (i+1))):=by
  intro d
  induction d with
  | zero =>
   intro k hk
   obtain rfl:k=n:=by omega
   have:=hl3 k
   rw[Rp]
   dsimp only
   unfold Re
   rw[decide_eq_false (by simp),cond_false]
   cases b with
   | true =>
    rw[cond_true,Qs (by simp only[aAC,aAE];omega)]
    rw[Vt (K:=Se i) (j:=Sf) (l:=(.s m::(([x.A,x.B,x.C]:List Int).take k).map Mk.i)++([(Mk.u x.Imm)]:List Mk)) (by simp only[aAA,aAC,aAE];omega) (λv hv=>(aAJ.1 hv).elim (hall k v) λhv=>by obtain rfl:=aAG.1 hv;exact⟨hx.i0,hx.i1⟩) (λ_ _ _=>rfl) (λ_ _=>rfl) ho]
    simp only[Se,VO,XV,TS,cond_true,aAl]
   | false =>
    rw[cond_false]
    rw[Vt (K:=RN i) (j:=RO) (l:=.s m::(([x.A,x.B,x.C]:List Int).take k).map Mk.i) (by simp only[aAC];omega) (hall k) (λ_ _ _=>rfl) (λ_ _=>rfl) ho]
    simp only[RN,VO,XV,TS,cond_false,List.append_nil]
  | succ d ih =>
   intro k hk
   obtain⟨a,h1,h2⟩:=Aeu x (k:=k) (by omega)
   have:=hl3 k
   rw[Rp]
   dsimp only
   unfold Re
   have hg:([x.A,x.B,x.C]:List Int).length=3:=rfl
   rw[decide_eq_true (by simp;omega),cond_true,Qs (by rw[hg];simp;omega),aAS,h1,aA,Qs (by simp only[aAC,aAE];omega),QQ (by omega),aAl,<- h2,VO]
   dsimp only
   exact ih (k+1) (by omega)
 exact key n 0 (by omega)
theorem AdW {f:Qk} (hf:ZT f) (i:Int):∀ (d k:Nat) (o:List UInt8),k+d=f.Code.length->o.length+d*111<=16700000 ->
  Qv (λs=>Rc f i s.1 s.2) (o,(k:Int))=some (.inl (o++VQ (f.Code.drop k),IntKind.i64.wrap (i+1))):=by
 have hn:=hf.n
 intro d
 induction d with
 | zero =>
  intro k o hk _
  rw[Rp]
  dsimp only
  unfold Rc
  rw[decide_eq_false (by omega),cond_false,aAN (by omega)]
  simp[VQ]
 | succ d ih =>
  intro k o hk ho
  have hlt:k<f.Code.length:=by omega
  have hx:=hf.x f.Code[k] (aAF _)
  have e:ixO f.Code (k:Int)=some f.Code[k]:=by rw[TQ];exact aAD hlt
  have step:Rc f i o (k:Int)=some (.inl (o++So (VR f.Code[k]),IntKind.i64.wrap ((k:Int)+1))):=by
   unfold Rc
   rw[decide_eq_true (by omega),cond_true,e,aA]
   generalize f.Code[k]=x at hx
   have hq:∀ v∈([Mk.s [63]]:List Mk),VOk v:=by intro v hv;obtain rfl:=aAG.1 hv;simp[VOk]
   by_cases h1:x.Op<0
   ·rw[decide_eq_true h1,cond_true,Vt (K:=RP k) (j:=RQ) (l:=[Mk.s [63]]) (by simp) hq (λ_ _ _=>rfl) (λ_ _=>rfl) (by omega)]
    have:VR x=[.s [63]]:=if_pos (.inl h1)
    simp[RP,this]
   ·rw[decide_eq_false h1,cond_false]
    by_cases h2:x.Op>=25
    ·rw[decide_eq_true h2,cond_true,Vt (K:=RR k) (j:=RS) (l:=[Mk.s [63]]) (by simp) hq (λ_ _ _=>rfl) (λ_ _=>rfl) (by omega)]
     have:VR x=[.s [63]]:=if_pos (.inr h2)
     simp[RR,this]
    ·rw[decide_eq_false h2,cond_false]
     obtain⟨n,b,m,g,r,e1,e2,e3,n0,n3,hm,e4⟩:=Abp (k:=x.Op.toNat) (by omega)
     have hop:x.Op=(x.Op.toNat:Int):=by omega
     have hz:X07 ⟨x.Op,0,0,0,0⟩:=by refine⟨⟨?_,?_⟩,⟨?_,?_⟩,⟨?_,?_⟩,?_,?_⟩<;>simp
     have hi:=AcV hz (k:=x.Op.toNat) hop e2 e3
     have hw:UY ⟨x.Op,0,0,0,0⟩ g 0=UY ⟨x.Op.toNat,0,0,0,0⟩ g 0:=by rw[<- hop]
     unfold SQ
     rw[hi,aA,hw,e4,aA,hop,e1,aA,Qs ⟨n0,by simpa using n3⟩]
     have hc:n=(n.toNat:Int):=by omega
     rw[hc,Ada hx (by omega) hm k (by omega),ZW hop (by omega) e1 e2]
  rw[Rp]
  dsimp only
  rw[step]
  dsimp only
  rw[QQ (by omega),ih (k+1) _ (by omega) (by have:=Zt hx;simp only[aAA];omega),aAL hlt]
  simp[VQ]
theorem AcT {t:Pw} (ht:Wo t):∀ (d k:Nat) (o:List UInt8),k+d=t.Frames.length->o≠[]->o.length+d*33400<=16600000 ->
  Qv (λs=>Rb t s.1 s.2) (o,(k:Int))=some (o++frL (t.Frames.drop k)):=by
 have hn:=ht.n
 intro d
 induction d with
 | zero =>
  intro k o hk ho _
  rw[Rp]
  dsimp only
  unfold Rb
  rw[decide_eq_false (by omega),cond_false,aAN (by omega),Qs ho]
  simp[frL]
 | succ d ih =>
  intro k o hk ho hlen
  have hlt:k<t.Frames.length:=by omega
  have hf:=ht.f t.Frames[k] (aAF _)
  have hfn:=hf.n
  have e:ixO t.Frames (k:Int)=some t.Frames[k]:=by rw[TQ];exact aAD hlt
  have hh:=Xl (ZV hf)
  have hc:=Zs hf.x
  have step:Rb t o (k:Int)=some (.inl (o++(So [.s [102,114,97,109,101],.i t.Frames[k].Params,.i t.Frames[k].Size]++VQ t.Frames[k].Code),IntKind.i64.wrap ((k:Int)+1))):=by
   unfold Rb
   rw[decide_eq_true (by omega),cond_true,e,aA,Vt (K:=Sd t.Frames[k] k) (j:=RT) (l:=[.s [102,114,97,109,101],.i t.Frames[k].Params,.i t.Frames[k].Size]) (by simp) (ZV hf) (λ_ _ _=>rfl) (λ_ _=>rfl) (by omega)]
   unfold Sd
   exact(AdW hf k t.Frames[k].Code.length 0 _ (by omega) (by simp only[aAA,aAC,aAE]at hh ⊢;omega)).trans (by simp)
  rw[Rp]
  dsimp only
  rw[step]
  dsimp only
  rw[QQ (by omega),ih (k+1) _ (by omega) (by simp[ho]) (by simp only[aAA,aAC,aAE]at hh ⊢;omega),aAL hlt]
  simp[frL]
theorem Aeg {t:Pw} (ht:Wo t):SL t=some (ZP t):=by
 have ha:∀ v∈([.s [97,108,105,103,110],.i t.Align]:List Mk),VOk v:=by
  intro v hv
  simp only[aAM,aAO,or_false]at hv
  rcases hv with rfl|rfl
  ·simp[VOk]
  ·exact ht.a
 have hn:=ht.n
 have hl:=Xl ha
 unfold SL
 rw[Vt (K:=Sc t) (j:=RU) (l:=[.s [97,108,105,103,110],.i t.Align]) (by simp) ha (λ_ _ _=>rfl) (λ_ _=>rfl) (by simp)]
 unfold Sc
 have:=AcT ht t.Frames.length 0 ([]++So [.s [97,108,105,103,110],.i t.Align]) (by omega) (by simp[So]) (by simp only[aAA,aAC,aAE]at hl ⊢;omega)
 simpa[ZP]using this
noncomputable def Acy (k:Nat):Bool :=
 match Ui k,SD[k]?,TV k,Rf k with
 | some n,some m,some (ua,ub,uc,ui),some (q,i)=>n==m&&n != [63]&&decide (n.length<=20)&&ui==i&&decide (0<=q)&&decide (q<=3)&&ua==decide (1<=q)&&ub==decide (2<=q)&&uc==decide (3<=q)
 | _,_,_,_=>false
theorem AcA:∀ k:Fin 25,Acy k=true:=by decide +kernel
theorem Acz {k:Nat} (hk:k<25):∃ m b q,Ui k=some m/\SD[k]? =some m/\(m==[63])=false/\m.length<=20/\TV k=some (decide (1<=q),decide (2<=q),decide (3<=q),b)/\Rf k=some (((q:Nat):Int),b)/\q<=3:=by
 have h:=AcA ⟨k,hk⟩
 unfold Acy at h
 dsimp only at h
 split at h
 ·rename_i n m ua ub uc ui q i e1 e2 e3 e4
  simp only[Bool.and_eq_true,beq_iff_eq,bne_iff_ne,decide_eq_true_eq,ne_eq]at h
  obtain⟨⟨⟨⟨⟨⟨⟨⟨h1,h2⟩,h3⟩,h4⟩,h5⟩,h6⟩,h7⟩,h8⟩,h9⟩:=h
  subst h1;subst h4
  refine⟨n,ui,q.toNat,e1,e2,by simpa using h2,h3,?_,by rw[e4];simp;omega,by omega⟩
  have g1:decide (1<=q.toNat)=decide (1<=q):=decide_eq_decide.2 (by omega)
  have g2:decide (2<=q.toNat)=decide (2<=q):=decide_eq_decide.2 (by omega)
  have g3:decide (3<=q.toNat)=decide (3<=q):=decide_eq_decide.2 (by omega)
  rw[e3,h7,h8,h9,g1,g2,g3]
 ·cases h
theorem Aei {x:Ed} (hx:X07 x):Ur x=some (So (VR x)):=by
 by_cases hr:x.Op<0\/x.Op>=25
 ·have e:VR x=[.s [63]]:=if_pos hr
  have hn:Ui x.Op=some [63]:=by
   unfold Ui
   rcases hr with h|h
   ·rw[decide_eq_true h,cond_true]
   ·rw[decide_eq_false (by omega),cond_false,decide_eq_true (by simpa using h),cond_true]
  unfold Ur
  rw[hn,aA,e,show(([63]:List UInt8)==[63])=true from rfl,cond_true,Qs (by decide)]
  rfl
 ·obtain⟨m,b,q,h1,h2,h3,h4,h5,h6,h7⟩:=Acz (k:=x.Op.toNat) (by omega)
  have hop:x.Op=(x.Op.toNat:Int):=by omega
  have la:=Uf hx.a
  have lb:=Uf hx.b
  have lc:=Uf hx.c
  have li:=ZU hx.i0 hx.i1
  rw[ZW hop (by omega) h6 h2]
  unfold Ur
  rw[hop,h1,aA,h3,cond_false,h5,aA,aAS]
  unfold TY TZ Ua
  simp only[int_eq hx.a,int_eq hx.b,int_eq hx.c,Abs hx.i0 hx.i1,aA]
  match q,h7 with
  | 0,_ =>
   cases b<;>simp only[show decide (1<=0)=false from rfl,show decide (2<=0)=false from rfl,show decide (3<=0)=false from rfl,cond_true,cond_false]<;>repeat rw[Qs (by simp only[aAA,aAC,aAE];omega)]
   all_goals simp[So,Vu,TS,Va]
  | 1,_ =>
   cases b<;>simp only[show decide (1<=1)=true from rfl,show decide (2<=1)=false from rfl,show decide (3<=1)=false from rfl,cond_true,cond_false]<;>repeat rw[Qs (by simp only[aAA,aAC,aAE];omega)]
   all_goals simp[So,Vu,TS,Va]
  | 2,_ =>
   cases b<;>simp only[show decide (1<=2)=true from rfl,show decide (2<=2)=true from rfl,show decide (3<=2)=false from rfl,cond_true,cond_false]<;>repeat rw[Qs (by simp only[aAA,aAC,aAE];omega)]
   all_goals simp[So,Vu,TS,Va]
  | 3,_ =>
   cases b<;>simp only[show decide (1<=3)=true from rfl,show decide (2<=3)=true from rfl,show decide (3<=3)=true from rfl,cond_true,cond_false]<;>repeat rw[Qs (by simp only[aAA,aAC,aAE];omega)]
   all_goals simp[So,Vu,TS,Va]
theorem AdB {f:Qk} (hf:ZT f) (i:Int):∀ (d k:Nat) (o:List UInt8),k+d=f.Code.length->o.length+d*111<=16700000 ->
  Qv (λs=>Rj f i s.1 s.2) (o,(k:Int))=some (.inl (o++VQ (f.Code.drop k),IntKind.i64.wrap (i+1))):=by
 have hn:=hf.n
 intro d
 induction d with
 | zero =>
  intro k o hk _
  rw[Rp]
  dsimp only
  unfold Rj
  rw[decide_eq_false (by omega),cond_false,aAN (by omega)]
  simp[VQ,SZ]
 | succ d ih =>
  intro k o hk ho
  have hlt:k<f.Code.length:=by omega
  have hx:=hf.x f.Code[k] (aAF _)
  have hl:=Zt hx
  have e:ixO f.Code (k:Int)=some f.Code[k]:=by rw[TQ];exact aAD hlt
  have step:Rj f i o (k:Int)=some (.inl (o++So (VR f.Code[k]),IntKind.i64.wrap ((k:Int)+1))):=by
   unfold Rj
   rw[decide_eq_true (by omega),cond_true,e,aA,Aei hx,aA,Qs (by omega),VO]
  rw[Rp]
  dsimp only
  rw[step]
  dsimp only
  rw[QQ (by omega),ih (k+1) _ (by omega) (by simp only[aAA];omega),aAL hlt]
  simp[VQ]
theorem Acs {t:Pw} (ht:Wo t):∀ (d k:Nat) (o:List UInt8),k+d=t.Frames.length->o.length+d*33400<=16600000 ->
  Qv (λs=>Ri t s.1 s.2) (o,(k:Int))=some (o++frL (t.Frames.drop k)):=by
 have hn:=ht.n
 intro d
 induction d with
 | zero =>
  intro k o hk _
  rw[Rp]
  dsimp only
  unfold Ri
  rw[decide_eq_false (by omega),cond_false,aAN (by omega)]
  simp[frL]
 | succ d ih =>
  intro k o hk hlen
  have hlt:k<t.Frames.length:=by omega
  have hf:=ht.f t.Frames[k] (aAF _)
  have hfn:=hf.n
  have e:ixO t.Frames (k:Int)=some t.Frames[k]:=by rw[TQ];exact aAD hlt
  have hc:=Zs hf.x
  have lp:=Uf hf.p
  have ls:=Uf hf.s
  have step:Ri t o (k:Int)=some (.inl (o++(So [.s [102,114,97,109,101],.i t.Frames[k].Params,.i t.Frames[k].Size]++VQ t.Frames[k].Code),IntKind.i64.wrap ((k:Int)+1))):=by
   unfold Ri
   rw[decide_eq_true (by omega),cond_true,e,aA,int_eq hf.p,aA]
   rw[Qs (by simp only[aAC,aAE];omega),Qs (by simp only[aAA,aAC,aAE];omega),int_eq hf.s,aA]
   repeat rw[Qs (by simp only[aAA,aAC,aAE];omega)]
   exact(AdB hf k t.Frames[k].Code.length 0 _ (by omega) (by simp only[aAA,aAC,aAE];omega)).trans (by simp[So,Vu,Va])
  have hh:=Xl (ZV hf)
  rw[Rp]
  dsimp only
  rw[step]
  dsimp only
  rw[QQ (by omega),ih (k+1) _ (by omega) (by simp only[aAA,aAC,aAE]at hh ⊢;omega),aAL hlt]
  simp[frL]
theorem Aes {t:Pw} (ht:Wo t):SS t=some (ZP t):=by
 have hn:=ht.n
 have la:=Uf ht.a
 unfold SS
 rw[int_eq ht.a,aA]
 repeat rw[Qs (by simp only[aAA,aAC,aAE];omega)]
 have:=Acs ht t.Frames.length 0 ((([97,108,105,103,110,32])++Lib.itoa t.Align)++[10]) (by omega) (by simp only[aAA,aAC,aAE];omega)
 simp only[Int.natCast_zero]at this
 rw[this]
 simp[ZP,So,Vu,Va]
open Go Go.Dw Go.Proofs
theorem AdD (n:Int):Hs (VD n) λ_=>True:=by
 unfold VD
 exact .cond (λ_=>.pure trivial) λ_=>.cond (λ_=>.pure trivial) λ_=>.cond (λ_=>.pure trivial) λ_=>.cond (λ_=>.pure trivial) λ_=>.pure trivial
theorem AaW (n:Int):TC n=some (decide (0<=n/\n<=2147483647)):=by
 unfold TC
 by_cases h:n>=0
 ·rw[decide_eq_true h,cond_true]
  by_cases h1:n<=2147483647
  ·simp[h1];omega
  ·simp[h1]
 ·rw[decide_eq_false h,cond_false]
  have:¬ (0<=n/\n<=2147483647):=by omega
  simp[this]
theorem Adc (n:Int):Hs (SH n) λb=>b=true->1<=n/\n<=16777216:=by
 unfold SH
 refine Hs.loop (λk=>1<=k/\k<=33554432) (λk=>33554433-k.toNat) ⟨by omega,by omega⟩ ?_
 rintro k ⟨h0,h1⟩
 unfold TU
 refine .dec (λh=>.beq (λe=>.lft (.pure λ_=>⟨by omega,by omega⟩)) λ_=>?_) λh=>.lft (.pure λh=>(by cases h))
 rw[wrap64 (by omega) (by omega)]
 exact .cnt ⟨⟨by omega,by omega⟩,by simp only;omega⟩
open Go Go.Dw Go.Proofs
def UH (a:QK):Prop:=0<=a.Off/\a.Off<=2147483647/\0<=a.Size/\a.Size<=2147483647/\a.Off+a.Size<=2147483647
def Adj (a b:QK):Prop:=UH a/\UH b/\0<a.Size/\0<b.Size/\a.Off<b.Off+b.Size/\b.Off<a.Off+a.Size
def InI (a:QK) (n:Int):Prop:=UH a/\a.Off+a.Size<=n
instance (a:QK):Decidable (UH a):=by unfold UH;infer_instance
instance (a b:QK):Decidable (Adj a b):=by unfold Adj;infer_instance
instance (a:QK) (n:Int):Decidable (InI a n):=by unfold InI;infer_instance
theorem Ade (a:QK):Vd a=some (decide (UH a)):=by
 unfold Vd
 simp only[AaW,aA]
 by_cases h1:0<=a.Off/\a.Off<=2147483647
 ·rw[decide_eq_true h1,cond_true]
  by_cases h2:0<=a.Size/\a.Size<=2147483647
  ·rw[decide_eq_true h2,cond_true,wrap64 (by omega) (by omega)]
   congr 1
   unfold UH
   exact decide_eq_decide.2 ⟨λh=>⟨h1.1,h1.2,h2.1,h2.2,h⟩,λh=>h.2.2.2.2⟩
  ·rw[decide_eq_false h2,cond_false,decide_eq_false (λh=>h2 ⟨h.2.2.1,h.2.2.2.1⟩)]
 ·rw[decide_eq_false h1,cond_false,decide_eq_false (λh=>h1 ⟨h.1,h.2.1⟩)]
theorem Acf {m:Nat} (hm:m<=24):SH ((2 ^ m:Nat):Int)=some true:=by
 have:Hs (SH ((2 ^ m:Nat):Int)) λb=>b=true:=by
  unfold SH
  have hp:2 ^ m<=2 ^ 24:=aAZ (by omega) hm
  refine Hs.loop (λk=>∃ j:Nat,k=((2 ^ j:Nat):Int)/\j<=m) (λk=>2 ^ m-k.toNat) ⟨0,rfl,aAK _⟩ ?_
  rintro _ ⟨j,rfl,hj⟩
  have hjp:2 ^ j<=2 ^ m:=aAZ (by omega) hj
  have hj0:0<2 ^ j:=Nat.two_pow_pos j
  unfold TU
  refine .dec (λ_=>.beq (λ_=>.lft (.pure rfl)) λhne=>?_) λh=>(h (by omega)).elim
  have hlt:j<m:=by
   rcases Nat.lt_or_ge j m with h|h
   ·exact h
   ·exact(hne (by rw[show j=m by omega])).elim
  have h2:2 ^ (j+1)<=2 ^ m:=aAZ (by omega) hlt
  have h3:2 ^ (j+1)=2 ^ j*2:=Nat.pow_succ 2 j
  refine .cnt ⟨⟨j+1,?_,hlt⟩,?_⟩
  ·rw[wrap64 (by omega) (by omega),h3];push_cast;rfl
  ·simp only
   rw[wrap64 (by omega) (by omega)]
   omega
 obtain⟨r,h,rfl⟩:=this
 exact h
def upN (n a:Int):Int:=n+(-n) % a
theorem UP {n a:Int} (ha:0<a):n<=upN n a/\upN n a<n+a/\upN n a % a=0:=by
 have h1:=aAo (-n) (show a≠0 by omega)
 have h2:=aAh (-n) ha
 refine⟨by unfold upN;omega,by unfold upN;omega,?_⟩
 unfold upN
 rw[Int.emod_def (-n) a]
 have:n+(-n-a*(-n / a))=a*(-(-n / a)):=by rw[Int.mul_neg];omega
 rw[this];exact Int.mul_emod_right a _
def TO (a:Int):Prop:=∃ m:Nat,m<=24/\a=((2 ^ m:Nat):Int)
theorem TO.rng {a:Int} (h:TO a):1<=a/\a<=16777216:=by
 obtain⟨m,hm,rfl⟩:=h
 have hp:2 ^ m<=2 ^ 24:=aAZ (by omega) hm
 have h0:0<2 ^ m:=Nat.two_pow_pos m
 omega
theorem Acw {n a:Int} (h0:0<=n) (h1:n<=1000000000) (ha:TO a):VU n a=some (upN n a,0):=by
 obtain⟨a1,a2⟩:=ha.rng
 obtain⟨m,hm,rfl⟩:=ha
 obtain⟨p1,p2,_⟩:=UP (n:=n) (a:=((2 ^ m:Nat):Int)) (by omega)
 unfold VU
 rw[AaW,aA,decide_eq_true (show 0<=n/\n<=2147483647 by omega)]
 simp only[aAj,cond_false,Acf hm,aA]
 generalize((2 ^ m:Nat):Int)=a at *
 unfold Wd Vf
 have ht:n.tmod a=n % a:=aAR h0
 have e1:=aAo n (show a≠0 by omega)
 have e2:=aAh n (show 0<a by omega)
 have e3:=aAo (-n) (show a≠0 by omega)
 have e4:=aAh (-n) (show 0<a by omega)
 have d1:=Int.mul_ediv_add_emod n a
 have d2:=Int.mul_ediv_add_emod (-n) a
 rw[Qs (by omega),ht]
 have key:(n % a=0->upN n a=n)/\(n % a≠0->upN n a=n-n % a+a):=by
  unfold upN
  constructor
  ·intro h
   have:(-n) % a=0:=Int.emod_eq_zero_of_dvd (Int.dvd_neg.2 (aAn h))
   omega
  ·intro h
   have hs:(n % a+(-n) % a) % a=0:=by
    rw[Int.emod_def n a,Int.emod_def (-n) a]
    have:n-a*(n / a)+(-n-a*(-n / a))=a*(-(n / a)+ -(-n / a)):=by rw[Int.mul_add,Int.mul_neg,Int.mul_neg];omega
    rw[this];exact Int.mul_emod_right a _
   have hlt:0<n % a+(-n) % a/\n % a+(-n) % a<2*a:=by omega
   have hq:n % a+(-n) % a=a:=by
    obtain⟨q,hq⟩:=aAn hs
    have q1:0<q:=by
     rcases Int.lt_or_le 0 q with h|h
     ·exact h
     ·have:=aAf h (show 0<=a by omega)
      omega
    have q2:q<2:=by
     rcases Int.lt_or_le q 2 with h|h
     ·exact h
     ·have:=aAf h (show 0<=a by omega)
      omega
    have:q=1:=by omega
    subst this;omega
   omega
 by_cases h:n % a=0
 ·have:=key.1 h
  simp only[h,bne_self_eq_false,cond_false]
  rw[this,decide_eq_false (by omega),cond_false]
 ·have:=key.2 h
  rw[show(n % a != 0)=true by simpa using h,cond_true,Qs (by omega),wrap64 (n:=n-n % a) (by omega) (by omega),wrap64 (by omega) (by omega),<- this,decide_eq_false (by omega),cond_false]
open Go Go.Dw Go.Proofs
theorem UH.wrap {a:QK} (h:UH a):IntKind.i64.wrap (a.Off+a.Size)=a.Off+a.Size:=by
 unfold UH at h;exact wrap64 (by omega) (by omega)
theorem Acn (a:QK) (n:Int):UL a n=some (decide (InI a n)):=by
 unfold UL
 rw[Ade,aA]
 by_cases h:UH a
 ·rw[decide_eq_true h,cond_true,h.wrap];simp[InI,h]
 ·rw[decide_eq_false h,cond_false];simp[InI,h]
open Go Go.Dw Go.Proofs
attribute [local simp] Qs Bool.cond_eq_ite
def okC (c:BS):Prop:=0<=c.at_/\c.at_<=c.list.length/\c.list.length<=1000/\∀ v∈c.list,0<=v/\v<=255
theorem Aef (l:List Int) (n:Int) (hl:qL (Sh .u8) l) (h0:0<=n) (h1:n<=1000):∃ c,WV l n=some c/\okC c:=by
 unfold WV
 have e:WW (l.length:Int) n=min (l.length:Int) n:=Ady _ _
 rw[e]
 refine⟨_,by rw[Qs (by omega)],by simp,?_,?_,?_⟩
 ·simp
 ·simp only[aAc];omega
 ·intro v hv
  have:=hl.2 v (aAY hv)
  simpa[Sh,IntKind.min,IntKind.max,aAV,aAX]using this
theorem Adz (c:BS) (h:okC c) (n:Int) (h1:n<=1099511627776):∃ r c',Pl c n=some (r,c')/\okC c'/\0<=r/\(r<n\/r=0):=by
 obtain⟨ha,hb,hc,hd⟩:=h
 unfold Pl Uu
 by_cases hl:c.at_<c.list.length
 ·by_cases hn:n<1
  ·exact⟨0,c,by simp[hl,hn],⟨ha,hb,hc,hd⟩,by omega,.inr rfl⟩
  ·have hx:c.list[c.at_.toNat]? =some (c.list[c.at_.toNat]'(by omega)):=aAD _
   have hv:=hd _ (aAF (show c.at_.toNat<c.list.length by omega))
   generalize hq:c.list[c.at_.toNat]'(by omega)=v at hx hv
   have e1:IntKind.i64.wrap v=v:=wrap64 (by omega) (by omega)
   have hm0:0<=v*n:=Int.mul_nonneg hv.1 (by omega)
   have hm1:v*n<=255*n:=Int.mul_le_mul_of_nonneg_right hv.2 (by omega)
   have e2:IntKind.i64.wrap (v*n)=v*n:=wrap64 (by omega) (by omega)
   have e3:(v*n).tdiv 256=v*n / 256:=aAi hm0
   have e4:IntKind.i64.wrap (v*n / 256)=v*n / 256:=wrap64 (by omega) (by omega)
   have e5:IntKind.i64.wrap (c.at_+1)=c.at_+1:=wrap64 (by omega) (by omega)
   refine⟨v*n / 256,⟨c.list,c.at_+1⟩,?_,⟨by simp only;omega,by simp only;omega,hc,hd⟩,by omega,.inl (by omega)⟩
   simp[hl,hn,Tl,YQ _ ha,hx,e1,e2,e3,e4,e5]
 ·exact⟨0,c,by simp[hl],⟨ha,hb,hc,hd⟩,by omega,.inr rfl⟩
open Go Go.Dw Go.Proofs
theorem VT {c:BS} (h:okC c) {n:Int} (h1:n<=1099511627776):Hs (Pl c n) λp=>okC p.2/\0<=p.1/\(p.1<n\/p.1=0):=by
 obtain⟨r,c',e,h2,h3,h4⟩:=Adz c h n h1
 exact⟨(r,c'),e,h2,h3,h4⟩
theorem Qt {c:BS} (h:okC c) {n:Int} (h0:1<=n) (h1:n<=1099511627776):Hs (Pl c n) λp=>okC p.2/\0<=p.1/\p.1<n :=
 (VT h h1).mono λr hr=>⟨hr.1,hr.2.1,by omega⟩
def We (s:Qu):Prop:=s.Size∈([8,4,8,1,2,16,8]:List Int)/\s.Align∈([8,4,1,8,16,2,32,64]:List Int)
def W64 (w:Int):Prop:=0<=w/\w<18446744073709551616
def Reg (a:Int):Prop:=0<=a/\a<4
theorem AdE {c:BS} (h:okC c):Hs (Tm c) λp=>okC p.2/\We p.1:=by
 unfold Tm
 refine(Qt h (by omega) (by omega)).bind λr hr=>.chk (by simp;omega) ?_
 refine(Hs.get hr.2.1 (by simp;omega) λx hx=>aAB hx).bind λx hx=>?_
 refine(Qt hr.1 (by omega) (by omega)).bind λr' hr'=>.chk (by simp;omega) ?_
 refine(Hs.get hr'.2.1 (by simp;omega) λx hx=>aAB hx).bind λy hy=>?_
 exact .pure ⟨hr'.1,hx,hy⟩
theorem Adf {c:BS} (h:okC c) {m:Int} (hm:0<=m) (hm':m<=1000):Hs (Tb c m) λp=>okC p.2/\(p.1.length:Int)<=m/\∀ s∈p.1,We s:=by
 unfold Tb
 have w:IntKind.i64.wrap (m+1)=m+1:=wrap64 (by omega) (by omega)
 rw[w]
 refine(Qt h (by omega) (by omega)).bind λr hr=>?_
 refine Hs.loop (λs=>okC ⟨s.1,s.2.1⟩/\(s.2.2.1.length:Int)+s.2.2.2<=m/\(∀ x∈s.2.2.1,We x)/\0<=s.2.2.2) (λs=>s.2.2.2.toNat) ⟨hr.1,by simp;omega,by simp,hr.2.1⟩ ?_
 rintro⟨l,a,sl,n⟩ ⟨hc,hl,hs,hn⟩
 simp only at hc hl hs hn
 unfold Te
 refine .dec (λhlt=>?_) λhlt=>?_
 ·have hlt:0<n:=hlt
  have w:IntKind.i64.wrap (n-1)=n-1:=wrap64 (by omega) (by omega)
  refine(AdE hc).bind λx hx=>.chk (by simp;omega) (.cnt ⟨⟨hx.1,?_,?_,?_⟩,?_⟩)
  ·simp only[w,aAA,aAH];omega
  ·intro y hy
   rcases aAJ.1 hy with h1|h1
   ·exact hs y h1
   ·rw[aAG]at h1;subst h1;exact hx.2
  ·simp only[w];omega
  ·simp only[w];omega
 ·exact .lft (.pure ⟨hc,by simp only;omega,hs⟩)
theorem Aaw {c:BS} (h:okC c):Hs (Sm c) λp=>okC p.2/\W64 p.1:=by
 unfold Sm
 refine(Qt h (by omega) (by omega)).bind λr hr=>.beq (λ_=>?_) λ_=>.beq (λ_=>?_) λ_=>.beq (λ_=>?_) λ_=>?_
 ·exact(Qt hr.1 (by omega) (by omega)).bind λr' hr'=>.pure ⟨hr'.1,Aav _⟩
 ·exact(Qt hr.1 (by omega) (by omega)).bind λr' hr'=>.chk hr'.2.1 (.pure ⟨hr'.1,Aav _⟩)
 ·exact .pure ⟨hr.1,by simp only;unfold W64;omega⟩
 ·exact(Qt hr.1 (by omega) (by omega)).bind λr' hr'=>.pure ⟨hr'.1,Aav _⟩
def AcF (sl:List Qu) (a b:Int):Prop:=0<=a/\a<sl.length/\∃ x y,sl[a.toNat]? =some x/\sl[b.toNat]? =some y/\x.Size=y.Size
theorem Adx {c:BS} (h:okC c) {f:Qo} {s:Int} (h0:0<=s) (h1:s<f.Slots.length) (hl:f.Slots.length<=1000):Hs (Tp c f s) λp=>okC p.2/\AcF f.Slots p.1 s:=by
 unfold Tp
 refine Hs.loop (λst=>0<=st.2/\st.2<=f.Slots.length/\(st.1.length:Int)<=st.2/\(∀ v∈st.1,AcF f.Slots v s)/\(s<st.2->0<st.1.length)) (λst=>f.Slots.length-st.2.toNat) ⟨by simp,by simp,by simp,by simp,λh=>by simp at h;omega⟩ ?_
 rintro⟨l,k⟩ ⟨hk0,hk1,hll,hv,hne⟩
 simp only at hk0 hk1 hll hv hne
 unfold Tq
 refine .dec (λhlt=>?_) λhlt=>.lft ?_
 ·have w:IntKind.i64.wrap (k+1)=k+1:=wrap64 (by omega) (by omega)
  refine(Hs.ix hk0 hlt λx hx=>hx).bind λx hx=>(Hs.ix h0 h1 λx hx=>hx).bind λy hy=>.beq (λhe=>?_) λhe=>?_
  ·refine .chk (by simp;omega) (.cnt ⟨⟨by simp only[w];omega,by simp only[w];omega,by simp only[w,aAA,aAH];omega,?_,by simp⟩,by simp only[w];omega⟩)
   intro v hv'
   rcases aAJ.1 hv' with h2|h2
   ·exact hv v h2
   ·rw[aAG]at h2;subst h2
    exact⟨hk0,hlt,x,y,hx,hy,he⟩
  ·refine .cnt ⟨⟨by simp only[w];omega,by simp only[w];omega,by simp only[w];omega,hv,λh3=>?_⟩,by simp only[w];omega⟩
   simp only[w]at h3
   by_cases e:s=k
   ·subst e;rw[hx]at hy;cases hy;exact(he rfl).elim
   ·exact hne (by omega)
 ·have hlt:¬ k<f.Slots.length:=hlt
  have hl1:=hne (by omega)
  refine(Qt h (n:=(l.length:Int)) (by omega) (by omega)).bind λr hr=>.chk ⟨hr.2.1,hr.2.2⟩ ?_
  exact(Hs.get hr.2.1 hr.2.2 λx hx=>hv x (aAB hx)).bind λx hx=>.pure ⟨hr.1,hx⟩
inductive QM (sl:List Qu) (np i:Int) (ps:List Int) (T:Int->Prop):Ed->Prop
 | store (a b:Int):0<=a->a<sl.length->Reg b->QM sl np i ps T ⟨16,a,b,0,0⟩
 | load (a b:Int):Reg a->0<=b->b<sl.length->QM sl np i ps T ⟨15,a,b,0,0⟩
 | move (a b:Int):AcF sl a b->0<=b->b<sl.length->QM sl np i ps T ⟨17,a,b,0,0⟩
 | const (a w:Int):Reg a->W64 w->QM sl np i ps T ⟨0,a,0,0,w⟩
 | bin (op a b c:Int):2<=op->op<12->Reg a->Reg b->0<=c->c<8->QM sl np i ps T ⟨op,a,b,c,0⟩
 | out (a:Int):Reg a->QM sl np i ps T ⟨14,a,0,0,0⟩
 | un (op a:Int):(op=13\/op=12\/op=1)->Reg a->QM sl np i ps T ⟨op,a,0,0,0⟩
 | param (a b:Int):Reg a->0<=b->b<np->QM sl np i ps T ⟨19,a,b,0,0⟩
 | arg (a b:Int):0<=a->a<4->Reg b->QM sl np i ps T ⟨18,a,b,0,0⟩
 | call (j:Int):i<j->j<ps.length->QM sl np i ps T ⟨22,j,0,0,0⟩
 | jump (t:Int):T t->QM sl np i ps T ⟨20,t,0,0,0⟩
 | branch (a t:Int):Reg a->T t->QM sl np i ps T ⟨21,a,t,0,0⟩
def YN (ps:List Int):Prop:=(∀ v∈ps,0<=v/\v<4)/\ps.length<=1000
theorem Ado {c:BS} (h:okC c) {f:Qo} {i:Int} {ps:List Int} (T:Int->Prop) (hf:f.Slots.length<=1000) (hp:f.Params<4) (hi:0<=i) (hi':i<ps.length) (hps:YN ps) :
  Hs (Tn c f i ps) λp=>okC p.2/\p.1.length<=4/\∀ x∈p.1,QM f.Slots f.Params i ps T x:=by
 unfold Tn
 refine(Qt h (by omega) (by omega)).bind λr hr=>(Qt hr.1 (by omega) (by omega)).bind λk hk=>?_
 have hreg:Reg r.1:=hr.2
 have one:∀ {x:Ed} {c':BS},okC c'->QM f.Slots f.Params i ps T x->Hs (some (([x]:List Ed),c')) λp=>okC p.2/\p.1.length<=4/\∀ x∈p.1,QM f.Slots f.Params i ps T x:=λhc hx=>.pure ⟨hc,by simp,by simpa using hx⟩
 have j6:∀ b,(b=true->i+1<ps.length)->Hs (Sb k ps i r b) λp=>okC p.2/\p.1.length<=4/\∀ x∈p.1,QM f.Slots f.Params i ps T x:=by
  intro b hb
  unfold Sb
  refine .cond (λhb'=>?_) λ_=>one hk.1 (.out _ hreg)
  have hil:=hb hb'
  have hlen:=hps.2
  have w1:IntKind.i64.wrap ((ps.length:Int)-i)=(ps.length:Int)-i:=wrap64 (by omega) (by omega)
  have w2:IntKind.i64.wrap ((ps.length:Int)-i-1)=(ps.length:Int)-i-1:=wrap64 (by omega) (by omega)
  have w3:IntKind.i64.wrap (i+1)=i+1:=wrap64 (by omega) (by omega)
  rw[w1,w2]
  refine(Qt hk.1 (by omega) (by omega)).bind λq hq=>?_
  have w4:IntKind.i64.wrap (i+1+q.1)=i+1+q.1:=wrap64 (by omega) (by omega)
  refine Hs.loop (λs=>okC ⟨s.1,s.2.1⟩/\(s.2.2.1.length:Int)<=s.2.2.2/\0<=s.2.2.2/\s.2.2.2<=3/\∀ x∈s.2.2.1,QM f.Slots f.Params i ps T x) (λs=>(3-s.2.2.2).toNat) ⟨hq.1,by simp,by simp,by simp,by simp⟩ ?_
  rintro⟨l,a,out,n⟩ ⟨hc,ho,hn0,hn3,hall⟩
  simp only at hc ho hn0 hn3 hall
  unfold To
  simp only[w3,w4]
  refine(Hs.ix (by omega) (by omega) λx hx=>hps.1 x (aAB hx)).bind λx hx=>.dec (λhlt=>?_) λhlt=>.lft ?_
  ·have w5:IntKind.i64.wrap (n+1)=n+1:=wrap64 (by omega) (by omega)
   refine(Qt hc (by omega) (by omega)).bind λu hu=>.dec (λ_=>?_) λ_=>?_
   ·refine(Qt hu.1 (by omega) (by omega)).bind λv hv=>.chk (by simp;omega) (.cnt ⟨⟨hv.1,by simp only[w5,aAA,aAH];omega,by simp only[w5];omega,by simp only[w5];omega,?_⟩,by simp only[w5];omega⟩)
    intro y hy
    rcases aAJ.1 hy with h2|h2
    ·exact hall y h2
    ·rw[aAG]at h2;subst h2
     exact .arg _ _ hn0 (by omega) hv.2
   ·exact .cnt ⟨⟨hu.1,by simp only[w5];omega,by simp only[w5];omega,by simp only[w5];omega,hall⟩,by simp only[w5];omega⟩
  ·refine .chk (by simp;omega) (.pure ⟨hc,by simp only[aAA,aAH];omega,?_⟩)
   intro y hy
   rcases aAJ.1 hy with h2|h2
   ·exact hall y h2
   ·rw[aAG]at h2;subst h2
    exact .call _ (by omega) (by omega)
 have j5:∀ b,(b=true->0<f.Params)->Hs (Sa k f r ps i b) λp=>okC p.2/\p.1.length<=4/\∀ x∈p.1,QM f.Slots f.Params i ps T x:=by
  intro b hb
  unfold Sa
  refine .cond (λhb'=>?_) λ_=>.dec (λ_=>j6 _ λhd=>?_) λ_=>j6 _ λhd=>(by cases hd)
  ·have:=hb hb'
   exact(Qt hk.1 (by omega) (by omega)).bind λu hu=>one hu.1 (.param _ _ hreg hu.2.1 hu.2.2)
  ·have hlen:=hps.2
   have:=of_decide_eq_true hd
   rw[wrap64 (by omega) (by omega)]at this
   exact this
 have j4:∀ b,(b=true->0<f.Slots.length)->Hs (RZ k f r ps i b) λp=>okC p.2/\p.1.length<=4/\∀ x∈p.1,QM f.Slots f.Params i ps T x:=by
  intro b hb
  unfold RZ
  refine .cond (λhb'=>?_) λ_=>.dec (λ_=>?_) λ_=>.dec (λ_=>?_) λ_=>.dec (λ_=>one hk.1 (.out _ hreg)) λ_=>.beq (λ_=>?_) λ_=>.beq (λ_=>j5 _ λhd=>of_decide_eq_true hd) λ_=>j5 _ λhd=>(by cases hd)
  ·have:=hb hb'
   exact(Qt hk.1 (by omega) (by omega)).bind λu hu=>(Adx hu.1 hu.2.1 hu.2.2 hf).bind λv hv=>one hv.1 (.move _ _ hv.2 hu.2.1 hu.2.2)
  ·exact(Aaw hk.1).bind λu hu=>one hu.1 (.const _ _ hreg hu.2)
  ·refine(Qt hk.1 (by omega) (by omega)).bind λu hu=>(Qt hu.1 (by omega) (by omega)).bind λv hv=>(Qt hv.1 (by omega) (by omega)).bind λz hz=>one hz.1 ?_
   rw[wrap64 (by omega) (by omega)]
   exact .bin _ _ _ _ (by omega) (by omega) hreg hv.2 hz.2.1 hz.2.2
  ·refine(Qt hk.1 (by omega) (by omega)).bind λu hu=>.chk (by simp;omega) ?_
   refine(Hs.get hu.2.1 (by simp;omega) λx hx=>aAB hx).bind λx hx=>one hu.1 (.un _ _ (by simpa using hx) hreg)
 have j3:∀ b,(b=true->0<f.Slots.length)->Hs (RY k f r ps i b) λp=>okC p.2/\p.1.length<=4/\∀ x∈p.1,QM f.Slots f.Params i ps T x:=by
  intro b hb
  unfold RY
  refine .cond (λhb'=>?_) λ_=>.dec (λ_=>j4 _ λhd=>by have:=of_decide_eq_true hd;omega) λ_=>j4 _ λhd=>(by cases hd)
  have:=hb hb'
  exact(Qt hk.1 (by omega) (by omega)).bind λu hu=>one hu.1 (.load _ _ hreg hu.2.1 hu.2.2)
 have j2:∀ b,(b=true->0<f.Slots.length)->Hs (RX k f r ps i b) λp=>okC p.2/\p.1.length<=4/\∀ x∈p.1,QM f.Slots f.Params i ps T x:=by
  intro b hb
  unfold RX
  refine .cond (λhb'=>?_) λ_=>.dec (λ_=>j3 _ λhd=>by have:=of_decide_eq_true hd;omega) λ_=>j3 _ λhd=>(by cases hd)
  have:=hb hb'
  exact(Qt hk.1 (by omega) (by omega)).bind λu hu=>one hu.1 (.store _ _ hu.2.1 hu.2.2 hreg)
 exact .dec (λ_=>j2 _ λhd=>by have:=of_decide_eq_true hd;omega) λ_=>j2 _ λhd=>(by cases hd)
theorem QM.mono {sl:List Qu} {np i:Int} {ps:List Int} {T T':Int->Prop} {x:Ed} (h:QM sl np i ps T x) (hT:∀ t,T t->T' t):QM sl np i ps T' x:=by
 cases h with
 | store a b h1 h2 h3=>exact .store a b h1 h2 h3
 | load a b h1 h2 h3=>exact .load a b h1 h2 h3
 | move a b h1 h2 h3=>exact .move a b h1 h2 h3
 | const a w h1 h2=>exact .const a w h1 h2
 | bin op a b c h1 h2 h3 h4 h5 h6=>exact .bin op a b c h1 h2 h3 h4 h5 h6
 | out a h1=>exact .out a h1
 | un op a h1 h2=>exact .un op a h1 h2
 | param a b h1 h2 h3=>exact .param a b h1 h2 h3
 | arg a b h1 h2 h3=>exact .arg a b h1 h2 h3
 | call j h1 h2=>exact .call j h1 h2
 | jump t h1=>exact .jump t (hT t h1)
 | branch a t h1 h2=>exact .branch a t h1 (hT t h2)
def WE (x:Ed):Prop:=x=⟨23,0,0,0,0⟩\/∃ w,W64 w/\x=⟨24,0,0,0,w⟩
def VP (x:Ed) (t:Int):Ed :=
 if x.Op=20/\x.A<0 then⟨x.Op,t,x.B,x.C,x.Imm⟩else if x.Op=21/\x.B<0 then⟨x.Op,x.A,t,x.C,x.Imm⟩else x
theorem WE.fix {x:Ed} (h:WE x) (t:Int):VP x t=x:=by
 rcases h with rfl|⟨w,_,rfl⟩<;>simp[VP]
theorem QM.fix {sl:List Qu} {np i:Int} {ps:List Int} {T:Int->Prop} {x:Ed} (h:QM sl np i ps (· = -1) x) {t:Int} (ht:T t):QM sl np i ps T (VP x t):=by
 cases h with
 | store a b h1 h2 h3=>exact .store a b h1 h2 h3
 | load a b h1 h2 h3=>exact .load a b h1 h2 h3
 | move a b h1 h2 h3=>exact .move a b h1 h2 h3
 | const a w h1 h2=>exact .const a w h1 h2
 | bin op a b c h1 h2 h3 h4 h5 h6 =>
  have:VP ⟨op,a,b,c,0⟩ t=⟨op,a,b,c,0⟩:=by simp[VP,show op≠20 by omega,show op≠21 by omega]
  rw[this]
  exact .bin op a b c h1 h2 h3 h4 h5 h6
 | out a h1=>exact .out a h1
 | un op a h1 h2 =>
  have:VP ⟨op,a,0,0,0⟩ t=⟨op,a,0,0,0⟩:=by simp[VP,show op≠20 by omega,show op≠21 by omega]
  rw[this]
  exact .un op a h1 h2
 | param a b h1 h2 h3=>exact .param a b h1 h2 h3
 | arg a b h1 h2 h3=>exact .arg a b h1 h2 h3
 | call j h1 h2=>exact .call j h1 h2
 | jump q h1=>subst h1;exact .jump t ht
 | branch a q h1 h2=>subst h2;exact .branch a t h1 ht
theorem Aep {code:List Ed} {k:Nat} {x:Ed} (h:code[k]? =some x) (r:Int×BS) (t:Int):QP (k:Int) code r t=some (.inl (r.2.list,r.2.at_,code.set k (VP x t),IntKind.i64.wrap ((k:Int)+1))):=by
 obtain⟨hl,hx⟩:=aAI.1 h
 have hset:code.set k x=code:=by rw[<- hx];exact List.set_getElem_self hl
 obtain⟨op,a,b,c,w⟩:=x
 unfold QP RK
 by_cases h20:op=20
 ·subst h20
  by_cases ha:a<0
  ·simp[Qs,hl,hx,VP,ha]
  ·simp[Qs,hl,hx,VP,ha,hset]
 ·by_cases h21:op=21
  ·subst h21
   by_cases hb:b<0
   ·simp[Qs,hl,hx,VP,hb]
   ·simp[Qs,hl,hx,VP,hb,hset]
  ·have e20:(op==20)=false:=by simpa using h20
   have e21:(op==21)=false:=by simpa using h21
   simp[Qs,hl,hx,VP,e20,e21,h20,h21,hset]
structure TP (ps:List Int) (i most:Int) (f:Qo):Prop where
 par:ps[i.toNat]? =some f.Params
 slots:f.Slots.length<=6
 slot:∀ s∈f.Slots,We s
 len:1<=f.Code.length
 len':(f.Code.length:Int)<=7+5*most
 body:∀ (k:Nat) x,f.Code[k]? =some x->k+1<f.Code.length->QM f.Slots f.Params i ps (λt=>0<=t/\t<f.Code.length) x
 last:∀ x,f.Code[f.Code.length-1]? =some x->WE x
theorem AdZ {l:List Int} {a:Int} (h:okC ⟨l,a⟩) {sl:List Qu} {np i:Int} {ps:List Int} {most:Int} {code:List Ed} (hpar:ps[i.toNat]? =some np) (hsl:sl.length<=6) (hsl':∀ s∈sl,We s)
  (hlen:1<=code.length) (hlen':(code.length:Int)<=7+5*most) (hm:most<=1000) (hb:∀ (k:Nat) x,code[k]? =some x->k+1<code.length->QM sl np i ps (· = -1) x) (he:∀ x,code[code.length-1]? =some x->WE x) :
  Hs (Qv (λs:List Int×Int×List Ed×Int=>RJ np sl s.1 s.2.1 s.2.2.1 s.2.2.2) (l,a,code,0)) λp=>okC p.2/\TP ps i most p.1:=by
 refine Hs.loop (λs=>okC ⟨s.1,s.2.1⟩/\s.2.2.1.length=code.length/\∃ k:Nat,s.2.2.2=(k:Int)/\k<=code.length/\(∀ x,s.2.2.1[code.length-1]? =some x->WE x) /\
  ∀ (j:Nat) x,s.2.2.1[j]? =some x->j+1<code.length->QM sl np i ps (λt=>if j<k then 0<=t/\t<code.length else t= -1) x) (λs=>code.length-s.2.2.2.toNat) ⟨h,rfl,0,rfl,aAK _,he,λj x hj hj'=>(hb j x hj hj').mono λt ht=>by simpa using ht⟩ ?_
 rintro⟨l,a,code',k⟩ ⟨hc,hl,k,rfl,hk,he',hall⟩
 simp only at hc hl he' hall
 unfold RJ
 refine .dec (λhlt=>?_) λhlt=>?_
 ·have hlt:k<code.length:=by rw[<- hl];exact aAm.1 hlt
  have w:=QQ (show k<9223372036854775807 by omega)
  have hx:code'[k]? =some (code'[k]'(by omega)):=aAD _
  generalize code'[k]'(by omega)=x at hx
  have step:∀ (r:Int×BS) (t:Int),okC r.2->0<=t->t<code.length->Hs (QP (k:Int) code' r t) (Rnd (λs:List Int×Int×List Ed×Int=>okC ⟨s.1,s.2.1⟩/\s.2.2.1.length=code.length/\∃ k:Nat,s.2.2.2=(k:Int)/\k<=code.length/\(∀ x,s.2.2.1[code.length-1]? =some x->WE x) /\
    ∀ (j:Nat) x,s.2.2.1[j]? =some x->j+1<code.length->QM sl np i ps (λt=>if j<k then 0<=t/\t<code.length else t= -1) x) (λs=>code.length-s.2.2.2.toNat) (l,a,code',(k:Int)) (λp:Qo×BS=>okC p.2/\TP ps i most p.1)):=by
   intro r t hr ht0 ht1
   rw[Aep hx]
   refine .pure ⟨⟨hr,by simp[hl],k+1,w,hlt,?_,?_⟩,by simp only[w];omega⟩
   ·intro y hy
    simp only at hy
    by_cases e:k=code.length-1
    ·rw[<- e,aAr (by omega)]at hy
     obtain rfl:=Option.some.inj hy
     have hex:=he' x (by rw[<- e];exact hx)
     rw[hex.fix];exact hex
    ·rw[List.getElem?_set_ne e]at hy
     exact he' y hy
   ·intro j y hy hj
    simp only at hy
    by_cases e:k=j
    ·subst e
     rw[aAr (by omega)]at hy
     obtain rfl:=Option.some.inj hy
     exact((hall k x hx hj).mono λt ht=>by simpa using ht).fix (by rw[if_pos (by omega)];exact⟨ht0,ht1⟩)
    ·rw[List.getElem?_set_ne e]at hy
     refine(hall j y hy hj).mono λt ht=>?_
     by_cases e2:j<k
     ·rw[if_pos e2]at ht;rw[if_pos (by omega)];exact ht
     ·rw[if_neg e2]at ht;rw[if_neg (by omega)];exact ht
  refine(Qt hc (by omega) (by omega)).bind λr hr=>?_
  have w1:IntKind.i64.wrap ((k:Int)+r.1)=(k:Int)+r.1:=wrap64 (by omega) (by omega)
  have w2:IntKind.i64.wrap ((k:Int)+r.1-2)=(k:Int)+r.1-2:=wrap64 (by omega) (by omega)
  have w3:IntKind.i64.wrap ((code'.length:Int)-1)=(code'.length:Int)-1:=wrap64 (by omega) (by omega)
  simp only[w1,w2,w3]
  exact .dec (λ_=>step r _ hr.1 (by omega) (by omega)) λ_=>.dec (λ_=>step r _ hr.1 (by omega) (by omega)) λ_=>step r _ hr.1 (by omega) (by omega)
 ·have hlt:¬ k<code'.length:=λh=>hlt (aAm.2 h)
  have hkl:k=code.length:=by omega
  refine .lft (.pure ⟨hc,hpar,hsl,hsl',by simp only;omega,by simp only;omega,?_,?_⟩)
  ·intro j x hj hj'
   simp only at hj hj' ⊢
   rw[hl]at hj' ⊢
   refine(hall j x hj hj').mono λt ht=>?_
   rw[if_pos (by omega)]at ht
   exact ht
  ·intro x hx
   simp only at hx
   rw[hl]at hx
   exact he' x hx
theorem Adl {l:List Int} {a:Int} (h:okC ⟨l,a⟩) {sl:List Qu} {np i:Int} {ps:List Int} {most:Int} {code:List Ed} (hpar:ps[i.toNat]? =some np) (hsl:sl.length<=6) (hsl':∀ s∈sl,We s)
  (hlen:(code.length:Int)<=6+5*most) (hm:most<=1000) (hb:∀ x∈code,QM sl np i ps (· = -1) x) {e1 e2:Int} (he:WE ⟨e1,0,0,0,e2⟩) :
  Hs (Rm code np sl l a e1 e2) λp=>okC p.2/\TP ps i most p.1:=by
 unfold Rm
 refine .chk (by simp;omega) (AdZ h hpar hsl hsl' (by simp) (by simp;omega) hm ?_ ?_)
 ·intro k x hx hk
  simp only[aAA,aAH]at hk
  rw[aAT (by omega)]at hx
  exact hb x (aAB hx)
 ·intro x hx
  simp at hx
  subst hx
  exact he
theorem Abw {c:BS} (h:okC c) {i:Int} {ps:List Int} {most:Int} (hi:0<=i) (hi':i<ps.length) (hps:YN ps) (hm0:0<=most) (hm:most<=1000) :
  Hs (Sy c i ps most) λp=>okC p.2/\TP ps i most p.1:=by
 unfold Sy
 refine(Hs.ix hi hi' λx hx=>hx).bind λnp hnp=>(Adf h (by omega) (by omega)).bind λsl hsl=>?_
 obtain⟨hc0,hsl1,hsl2⟩:=hsl
 have hnp4:=hps.1 np (aAB hnp)
 refine Hs.loop (λs=>okC ⟨s.1,s.2.1⟩/\0<=s.2.2.2/\s.2.2.2<=sl.1.length/\(s.2.2.1.length:Int)<=s.2.2.2/\∀ x∈s.2.2.1,QM sl.1 np i ps (· = -1) x) (λs=>sl.1.length-s.2.2.2.toNat) ⟨hc0,by simp,by simp,by simp,by simp⟩ ?_
 rintro⟨l,a,code,s⟩ ⟨hc,hs0,hs1,hcl,hall⟩
 simp only at hc hs0 hs1 hcl hall
 unfold SF
 refine .dec (λhlt=>?_) λhlt=>?_
 ·have hlt:s<sl.1.length:=hlt
  have w:IntKind.i64.wrap (s+1)=s+1:=wrap64 (by omega) (by omega)
  refine(Qt hc (by omega) (by omega)).bind λr hr=>.dec (λ_=>?_) λ_=>?_
  ·refine(Qt hr.1 (by omega) (by omega)).bind λq hq=>.chk (by simp;omega) (.cnt ⟨⟨hq.1,by simp only[w];omega,by simp only[w];omega,by simp only[w,aAA,aAH];omega,?_⟩,by simp only[w];omega⟩)
   intro y hy
   rcases aAJ.1 hy with h2|h2
   ·exact hall y h2
   ·rw[aAG]at h2;subst h2
    exact .store _ _ hs0 hlt hq.2
  ·exact .cnt ⟨⟨hr.1,by simp only[w];omega,by simp only[w];omega,by simp only[w];omega,hall⟩,by simp only[w];omega⟩
 ·have w:IntKind.i64.wrap (most+1)=most+1:=wrap64 (by omega) (by omega)
  rw[w]
  refine .lft ((Qt hc (by omega) (by omega)).bind λr hr=>?_)
  refine Hs.loop (λs=>okC ⟨s.1,s.2.1⟩/\s.2.2.2.1=sl.1/\0<=s.2.2.2.2/\s.2.2.2.2<=most/\(s.2.2.1.length:Int)<=6+5*(most-s.2.2.2.2)/\∀ x∈s.2.2.1,QM sl.1 np i ps (· = -1) x) (λs=>s.2.2.2.2.toNat) ⟨hr.1,rfl,hr.2.1,by simp only;omega,by simp only;omega,hall⟩ ?_
  rintro⟨l,a,code,sl',n⟩ ⟨hc,rfl,hn0,hn1,hcl,hall⟩
  simp only at hc hn0 hn1 hcl hall
  unfold SG
  refine .dec (λhlt=>?_) λhlt=>.lft ?_
  ·have hlt:0<n:=hlt
   have w:IntKind.i64.wrap (n-1)=n-1:=wrap64 (by omega) (by omega)
   refine(Ado hc (· = -1) (by simp only;omega) hnp4.2 hi hi' hps).bind λb hb=>.chk (by simp;omega) ?_
   have hall2:∀ x∈code++b.1,QM sl.1 np i ps (· = -1) x:=by
    intro y hy
    rcases aAJ.1 hy with h2|h2
    ·exact hall y h2
    ·exact hb.2.2 y h2
   have hall3:∀ x,QM sl.1 np i ps (· = -1) x->∀ y∈(code++b.1)++[x],QM sl.1 np i ps (· = -1) y:=by
    intro x hx y hy
    rcases aAJ.1 hy with h2|h2
    ·exact hall2 y h2
    ·rw[aAG]at h2;subst h2;exact hx
   have hbl:=hb.2.1
   refine(Qt hb.1 (by omega) (by omega)).bind λr hr=>.beq (λ_=>?_) λ_=>.beq (λ_=>?_) λ_=>?_
   ·refine(Qt hr.1 (by omega) (by omega)).bind λq hq=>.chk (by simp;omega) (.cnt ⟨⟨hq.1,rfl,by simp only[w];omega,by simp only[w];omega,by simp only[w,aAA,aAH];omega,hall3 _ (.branch _ _ hq.2 rfl)⟩,by simp only[w];omega⟩)
   ·refine(Qt hr.1 (by omega) (by omega)).bind λq hq=>.beq (λ_=>?_) λ_=>?_
    ·exact .chk (by simp;omega) (.cnt ⟨⟨hq.1,rfl,by simp only[w];omega,by simp only[w];omega,by simp only[w,aAA,aAH];omega,hall3 _ (.jump _ rfl)⟩,by simp only[w];omega⟩)
    ·exact .cnt ⟨⟨hq.1,rfl,by simp only[w];omega,by simp only[w];omega,by simp only[w,aAA];omega,hall2⟩,by simp only[w];omega⟩
   ·exact .cnt ⟨⟨hr.1,rfl,by simp only[w];omega,by simp only[w];omega,by simp only[w,aAA];omega,hall2⟩,by simp only[w];omega⟩
  ·refine(Qt hc (by omega) (by omega)).bind λr hr=>.beq (λ_=>?_) λ_=>?_
   ·exact(Aaw hr.1).bind λq hq=>Adl hq.1 hnp (by omega) hsl2 (by omega) hm hall (.inr ⟨_,hq.2,rfl⟩)
   ·exact Adl hr.1 hnp (by omega) hsl2 (by omega) hm hall (.inl rfl)
def AaT (funcs most:Int) (p:Qj):Prop :=
 ∃ ps,YN ps/\ps[0]? =some 0/\1<=ps.length/\(ps.length:Int)<=funcs/\p.Funcs.length=ps.length/\∀ (j:Nat) f,p.Funcs[j]? =some f->TP ps j most f
theorem Acd {c:BS} (h:okC c) {funcs most:Int} (hf:1<=funcs) (hf':funcs<=1000) (hm0:0<=most) (hm:most<=1000) :
  Hs (SK c funcs most) λp=>okC p.2/\AaT funcs most p.1:=by
 unfold SK
 refine(Qt h hf (by omega)).bind λr hr=>?_
 refine Hs.loop (λs=>okC ⟨s.1,s.2.1⟩/\(∀ v∈s.2.2.1,0<=v/\v<4)/\s.2.2.1[0]? =some 0/\0<=s.2.2.2/\(s.2.2.1.length:Int)+s.2.2.2<=funcs) (λs=>s.2.2.2.toNat) ⟨hr.1,by simp,by simp,hr.2.1,by simp;omega⟩ ?_
 rintro⟨l,a,ps,n⟩ ⟨hc,hv,hz,hn0,hn1⟩
 simp only at hc hv hz hn0 hn1
 have hp1:1<=ps.length:=by have:=(aAI.1 hz).1;omega
 unfold SN
 refine .dec (λhlt=>?_) λhlt=>.lft ?_
 ·have hlt:0<n:=hlt
  have w:IntKind.i64.wrap (n-1)=n-1:=wrap64 (by omega) (by omega)
  refine(Qt hc (by omega) (by omega)).bind λq hq=>.chk (by simp;omega) (.cnt ⟨⟨hq.1,?_,by simp only;rw[aAT (by omega)];exact hz,by simp only[w];omega,by simp only[w,aAA,aAH];omega⟩,by simp only[w];omega⟩)
  intro y hy
  rcases aAJ.1 hy with h2|h2
  ·exact hv y h2
  ·rw[aAG]at h2;subst h2;exact hq.2
 ·have hps:YN ps:=⟨hv,by omega⟩
  refine Hs.loop (λs=>okC ⟨s.1,s.2.1⟩/\s.2.2.2.2=ps/\∃ i:Nat,s.2.2.2.1=(i:Int)/\i<=ps.length/\s.2.2.1.length=i/\∀ (j:Nat) f,s.2.2.1[j]? =some f->TP ps j most f) (λs=>ps.length-s.2.2.2.1.toNat) ⟨hc,rfl,0,rfl,aAK _,rfl,λj f hj=>by simp at hj⟩ ?_
  rintro⟨l,a,fs,i',ps'⟩ ⟨hc,hpe,i,hie,hi,hfl,hall⟩
  simp only at hc hpe hie hi hfl hall
  subst hpe hie
  unfold SO
  refine .dec (λhlt=>?_) λhlt=>.lft (.pure ⟨hc,ps',hps,hz,hp1,by omega,?_,hall⟩)
  ·have hlt:i<ps'.length:=aAm.1 hlt
   have w:=QQ (show i<9223372036854775807 by have:=hps.2;omega)
   have hpl:=hps.2
   refine .chk (by simp;omega) ((Abw hc (i:=(i:Int)) (ps:=ps') (by omega) (by omega) hps hm0 hm).bind λf hf=>.chk (by simp;omega) (.cnt ⟨⟨hf.1,rfl,i+1,w,hlt,by simp;omega,?_⟩,by simp only[w];omega⟩))
   intro j g hg
   simp only[aAQ]at hg
   by_cases e:j<fs.length
   ·rw[aAT e]at hg;exact hall j g hg
   ·have hj:j=i:=by
     have:=(aAI.1 hg).1
     simp at this;omega
    subst hj
    rw[aAk (by omega),hfl]at hg
    simp at hg
    subst hg
    exact hf.2
  ·have hlt:¬ i<ps'.length:=λh=>hlt (aAm.2 h)
   simp only;omega
open Go Go.Dw Go.Proofs
theorem Tz (m:Nat) (hm:m<=24):TO ((2 ^ m:Nat):Int):=⟨m,hm,rfl⟩
theorem We.al {s:Qu} (h:We s):TO s.Align/\s.Align<=64/\1<=s.Size/\s.Size<=16:=by
 obtain⟨h1,h2⟩:=h
 have ha:TO s.Align/\s.Align<=64:=by
  simp only[aAM,aAO,or_false]at h2
  rcases h2 with h|h|h|h|h|h|h|h<;>rw[h]
  ·exact⟨Tz 3 (by omega),by omega⟩
  ·exact⟨Tz 2 (by omega),by omega⟩
  ·exact⟨Tz 0 (by omega),by omega⟩
  ·exact⟨Tz 3 (by omega),by omega⟩
  ·exact⟨Tz 4 (by omega),by omega⟩
  ·exact⟨Tz 1 (by omega),by omega⟩
  ·exact⟨Tz 5 (by omega),by omega⟩
  ·exact⟨Tz 6 (by omega),by omega⟩
 refine⟨ha.1,ha.2,?_⟩
 simp only[aAM,aAO,or_false]at h1
 omega
open Go Go.Dw Go.Proofs
theorem Acv (s:List Qu):Hs (Ve s) λe=>e=0->s.length<=512:=by
 unfold Ve
 refine .dec (λ_=>.pure λh=>by simp at h) λh=>?_
 have hl:s.length<=512:=by omega
 refine(Hs.loop (Q:=λ_=>True) (λi=>∃ k:Nat,i=(k:Int)/\k<=s.length) (λi=>s.length-i.toNat) ⟨0,rfl,aAK _⟩ ?_).mono λ_ _ _=>hl
 rintro _ ⟨k,rfl,hk⟩
 unfold UR
 refine .dec (λhlt=>?_) λ_=>.lft (.pure trivial)
 refine(Hs.ix (P:=λ_=>True) (by omega) hlt λ_ _=>trivial).bind λx _=>(AdD _).bind λb _=>.cond (λ_=>.lft (.pure trivial)) λ_=>?_
 refine(Hs.ix (P:=λ_=>True) (by omega) hlt λ_ _=>trivial).bind λy _=>(Adc _).bind λb _=>.cond (λ_=>.lft (.pure trivial)) λ_=>?_
 rw[QQ (by omega)]
 exact .cnt ⟨⟨k+1,rfl,by omega⟩,by simp only;omega⟩
open Go Go.Dw Go.Proofs
def WJ (p:Qj) (n:Int) (x:Ed):Int:=if x.Op=18 then TR n (x.A+1)else if x.Op=22 then TR n (((p.Funcs[x.A.toNat]?).map Qo.Params).getD 0)else n
def Rk (p:Qj) (f:Qo) (k:Nat):Int:=(f.Code.take k).foldl (WJ p) 0
def ZA (p:Qj) (f:Qo):Prop:=∀ x∈f.Code,(x.Op=18->0<=x.A/\x.A<4)/\(x.Op=22->0<=x.A/\∃ g,p.Funcs[x.A.toNat]? =some g/\0<=g.Params/\g.Params<4)
theorem Xj {p:Qj} {f:Qo} {k:Nat} (hk:k<f.Code.length):Rk p f (k+1)=WJ p (Rk p f k) f.Code[k]:=by
 unfold Rk
 rw[aAW hk,List.foldl_append]
 rfl
theorem Abf {a b c:Int} (h0:0<=a/\a<=c) (h1:b<=c):0<=TR a b/\TR a b<=c:=by unfold TR;split<;>omega
theorem WS {p:Qj} {f:Qo} (h:ZA p f):∀ {k:Nat},k<=f.Code.length->0<=Rk p f k/\Rk p f k<=4
 | 0,_=>by simp[Rk]
 | k+1,hk=>by
  rw[Xj hk]
  have ih:=WS h (k:=k) (by omega)
  obtain⟨h1,h2⟩:=h _ (aAF hk)
  unfold WJ
  split
  ·exact Abf ih (by have:=h1 ‹_›;omega)
  ·split
   ·obtain⟨_,g,hg,hp⟩:=h2 ‹_›
    rw[hg]
    exact Abf ih (by simp only[Option.map_some,Option.getD_some];omega)
   ·exact ih
theorem Abi {p:Qj} {i:Int} {f:Qo} (hi:ixO p.Funcs i=some f) (hl:f.Code.length<=10000) (h:ZA p f):Uj p i=some (16*Rk p f f.Code.length):=by
 have:Hs (Uj p i) λr=>r=16*Rk p f f.Code.length:=by
  unfold Uj
  rw[hi,aA]
  refine Hs.loop (λq=>∃ k:Nat,q=(Rk p f k,(k:Int))/\k<=f.Code.length) (λq=>f.Code.length-q.2.toNat) ⟨0,rfl,aAK _⟩ ?_
  rintro _ ⟨k,rfl,hk⟩
  have hr:=WS h hk
  unfold Vl
  dsimp only
  refine .dec (λhlt=>?_) λhge=>.lft (.pure ?_)
  ·have hlt:k<f.Code.length:=by omega
   have e:ixO f.Code (k:Int)=some f.Code[k]:=by rw[TQ];exact aAD hlt
   obtain⟨h1,h2⟩:=h _ (aAF hlt)
   simp only[e,aA]
   rw[QQ (by omega)]
   refine .beq (λh18=>?_) λh18=>.beq (λh22=>?_) λh22=>?_
   ·have:=h1 h18
    rw[wrap64 (by omega) (by omega)]
    exact .cnt ⟨⟨k+1,by rw[Xj hlt];simp[WJ,h18],hlt⟩,by simp only;omega⟩
   ·obtain⟨a0,g,hg,hp⟩:=h2 h22
    rw[YQ _ a0,hg,aA]
    exact .cnt ⟨⟨k+1,by rw[Xj hlt];simp[WJ,h22,hg],hlt⟩,by simp only;omega⟩
   ·exact .cnt ⟨⟨k+1,by rw[Xj hlt];simp[WJ,h18,h22],hlt⟩,by simp only;omega⟩
  ·have:k=f.Code.length:=by omega
   subst this
   rw[wrap64 (by omega) (by omega)]
   show Rk p f f.Code.length*16=_
   omega
 obtain⟨r,h,rfl⟩:=this
 exact h
def Uq (s:List Qu):Prop:=s.length<=6/\∀ x∈s,TO x.Align/\x.Align<=64/\1<=x.Size/\x.Size<=16
theorem TP.AbN {ps:List Int} {i most:Int} {f:Qo} (h:TP ps i most f):Uq f.Slots:=⟨h.slots,λx hx=>(h.slot x hx).al⟩
def Wm (q:List Int×Int) (s:Qu):List Int×Int:=(q.1++[upN q.2 s.Align],upN q.2 s.Align+s.Size)
def plK (s:List Qu) (a:Int) (k:Nat):List Int×Int:=(s.take k).foldl Wm ([],a)
theorem WY {s:List Qu} {a:Int} {k:Nat} (hk:k<s.length):plK s a (k+1)=Wm (plK s a k) s[k]:=by
 unfold plK
 rw[aAW hk,List.foldl_append]
 rfl
theorem YR {s:List Qu} (h:Uq s) {a:Int} (ha:0<=a/\a<=1000):∀ {k:Nat},k<=s.length->(plK s a k).1.length=k/\a<=(plK s a k).2/\(plK s a k).2<=a+80*k
 | 0,_=>by simp[plK]
 | k+1,hk=>by
  have ih:=YR h ha (k:=k) (by omega)
  obtain⟨h1,h2,h3,h4⟩:=h.2 _ (aAF hk)
  obtain⟨u1,u2,_⟩:=UP (n:=(plK s a k).2) (a:=s[k].Align) (by have:=h1.rng;omega)
  rw[WY hk]
  refine⟨by simp[Wm,ih.1],?_,?_⟩
  ·simp only[Wm];omega
  ·simp only[Wm];omega
def SW (p:Qj) (f:Qo) (al:Int):Qn:=⟨16*Rk p f f.Code.length,upN (plK f.Slots (16*Rk p f f.Code.length) f.Slots.length).2 al,(plK f.Slots (16*Rk p f f.Code.length) f.Slots.length).1⟩
theorem Abj {p:Qj} {i:Int} {f:Qo} (hi:ixO p.Funcs i=some f) (hl:f.Code.length<=10000) (h:ZA p f) (hs:Uq f.Slots) {al:Int} (ha:TO al) (ha':al<=64):SB p i al=some (SW p f al,0):=by
 have hr:=WS h (k:=f.Code.length) (aAP _)
 have hsl:=hs.1
 have:Hs (SB p i al) λr=>r=(SW p f al,0):=by
  unfold SB
  rw[Abi hi hl h,aA,hi,aA]
  unfold SW
  have hr2:0<=16*Rk p f f.Code.length/\16*Rk p f f.Code.length<=64:=by omega
  generalize 16*Rk p f f.Code.length=a0 at *
  refine Hs.loop (λq=>∃ k:Nat,q=((plK f.Slots a0 k).1,(k:Int),(plK f.Slots a0 k).2)/\k<=f.Slots.length) (λq=>f.Slots.length-q.2.1.toNat) ⟨0,rfl,aAK _⟩ ?_
  rintro _ ⟨k,rfl,hk⟩
  obtain⟨q1,q2,q3⟩:=YR hs (a:=a0) (by omega) hk
  unfold TM
  dsimp only
  refine .dec (λhlt=>?_) λhge=>.lft ?_
  ·have hlt:k<f.Slots.length:=by omega
   have e:ixO f.Slots (k:Int)=some f.Slots[k]:=by rw[TQ];exact aAD hlt
   obtain⟨h1,h2,h3,h4⟩:=hs.2 _ (aAF hlt)
   obtain⟨u1,u2,_⟩:=UP (n:=(plK f.Slots a0 k).2) (a:=f.Slots[k].Align) (by have:=h1.rng;omega)
   simp only[e,aA]
   rw[Acw (by omega) (by omega) h1,aA]
   simp only[bne_self_eq_false,cond_false]
   rw[wrap64 (n:=2147483519-f.Slots[k].Size) (by omega) (by omega),decide_eq_false (by omega),cond_false]
   unfold TN
   refine .chk (by simp;omega) (.chk (by simp;omega) ?_)
   rw[e,aA,QQ (by omega),wrap64 (by omega) (by omega)]
   exact .cnt ⟨⟨k+1,by rw[WY hlt];simp[Wm],hlt⟩,by simp only;omega⟩
  ·have:k=f.Slots.length:=by omega
   subst this
   obtain⟨u1,u2,_⟩:=UP (n:=(plK f.Slots a0 f.Slots.length).2) (a:=al) (by have:=ha.rng;omega)
   rw[Acw (by omega) (by omega) ha,aA]
   simp only[bne_self_eq_false,cond_false]
   rw[decide_eq_false (by omega),cond_false]
   exact .pure rfl
 obtain⟨r,h,rfl⟩:=this
 exact h
open Go Go.Dw Go.Proofs
structure AbS (p:Qj) (i:Int) (f:Qo) (al:Int):Prop where
 hi:ixO p.Funcs i=some f
 arg:ZA p f
 slots:Uq f.Slots
 alok:TO al
 al16:16<=al
 al64:al<=64
 len':f.Code.length<=10000
def XP (f:Qo) (y:Qn) (k:Nat):Prop:=∃ o s,y.Off[k]? =some o/\f.Slots[k]? =some s/\y.Args<=o/\o.tmod s.Align=0/\InI ⟨o,s.Size⟩ y.Size
def YO (p:Qj) (f:Qo) (al:Int) (y:Qn):Prop :=
 y.Args=16*Rk p f f.Code.length/\y.Off.length=f.Slots.length/\(∀ k:Nat,k<f.Slots.length->XP f y k)/\y.Size.tmod al=0/\y.Args<=y.Size/\y.Size<=(SW p f al).Size
theorem XB {s:List Qu} {a:Int}:∀ {k:Nat},k<=s.length->(plK s a k).1.length=k
 | 0,_=>by simp[plK]
 | k+1,hk=>by
  have ih:=XB (s:=s) (a:=a) (k:=k) (by omega)
  rw[WY hk]
  simp[Wm,ih]
theorem AbL {s:List Qu} {a:Int} {j:Nat} (hj:j<s.length):∀ {k:Nat},j<k->k<=s.length->(plK s a k).1[j]? =some (upN (plK s a j).2 s[j].Align)
 | 0,h,_=>absurd h (Nat.not_lt_zero _)
 | k+1,h,hk=>by
  rw[WY hk]
  have hl:=XB (a:=a) (show k<=s.length by omega)
  unfold Wm
  by_cases e:j=k
  ·subst e
   rw[aAk (by omega),hl,Nat.sub_self];rfl
  ·rw[aAT (by omega)]
   exact AbL hj (by omega) (by omega)
theorem AbK {s:List Qu} {a:Int} {j:Nat} (hj:j<s.length):(plK s a (j+1)).2=upN (plK s a j).2 s[j].Align+s[j].Size:=by rw[WY hj];rfl
theorem WX {s:List Qu} (h:Uq s) {a:Int} {j:Nat}:∀ {k:Nat},j<=k->k<=s.length->(plK s a j).2<=(plK s a k).2
 | 0,h,_=>by rw[show j=0 by omega];exact aAp _
 | k+1,hjk,hk=>by
  by_cases e:j=k+1
  ·subst e;exact aAp _
  have ih:=WX h (a:=a) (j:=j) (k:=k) (by omega) (by omega)
  obtain⟨h1,h2,h3,h4⟩:=h.2 _ (aAF hk)
  obtain⟨u1,u2,_⟩:=UP (n:=(plK s a k).2) (a:=s[k].Align) (by have:=h1.rng;omega)
  rw[AbK hk]
  omega
section
variable {p:Qj} {i:Int} {f:Qo} {al:Int} (h:AbS p i f al)
include h
theorem Acu (y:Qn):Hs (Vh p i al y) λe=>(e=0\/e=13)/\(e=0↔YO p f al y):=by
 have hal:=h.al16
 have hsl:=h.slots.1
 have no:∀ {Q:Prop},(YO p f al y->False)->Hs (some (13:Int)) λe=>(e=0\/e=13)/\(e=0↔YO p f al y):=λhn=>.pure ⟨.inr rfl,⟨λh=>(by cases h),λh=>(hn h).elim⟩⟩
 unfold Vh
 rw[Abj h.hi h.len' h.arg h.slots h.alok h.al64,aA,h.hi,aA,Abi h.hi h.len' h.arg,aA]
 simp only[bne_self_eq_false,cond_false]
 refine .bne (λhA=>no (Q:=True) λhq=>hA hq.1) λhA=>.bne (λhL=>no (Q:=True) λhq=>hL (by rw[hq.2.1])) λhL=>?_
 have hL:y.Off.length=f.Slots.length:=by omega
 unfold UU
 refine Hs.loop (λq=>∃ k:Nat,q=(k:Int)/\k<=f.Slots.length/\∀ j<k,XP f y j) (λq=>f.Slots.length-q.toNat) ⟨0,rfl,aAK _,λj hj=>absurd hj (Nat.not_lt_zero _)⟩ ?_
 rintro _ ⟨k,rfl,hk,hall⟩
 unfold UT
 refine .dec (λhlt=>?_) λhge=>.lft ?_
 ·have hlt:k<f.Slots.length:=by omega
  have eo:y.Off[k]? =some (y.Off[k]'(by omega)):=aAD _
  have es:f.Slots[k]? =some f.Slots[k]:=aAD _
  have hs:=(h.slots.2 _ (aAF hlt)).1.rng
  generalize(y.Off[k]'(by omega))=o at eo
  generalize f.Slots[k]=s at es hs
  have key:XP f y k↔y.Args<=o/\o.tmod s.Align=0/\InI ⟨o,s.Size⟩ y.Size:=by
   unfold XP
   constructor
   ·rintro⟨o',s',e1,e2,h⟩
    rw[eo]at e1;rw[es]at e2;cases e1;cases e2;exact h
   ·exact λh=>⟨o,s,eo,es,h⟩
  simp only[TQ,eo,es,aA,Acn]
  refine .dec (λh1=>.lft (no (Q:=True) λhq=>?_)) λh1=>.chk (by omega) (.bne (λh2=>.lft (no (Q:=True) λhq=>?_)) λh2=>.cond (λh3=>.lft (no (Q:=True) λhq=>?_)) λh3=>?_)
  ·have:=key.1 (hq.2.2.1 k hlt);omega
  ·exact h2 (key.1 (hq.2.2.1 k hlt)).2.1
  ·rw[decide_eq_true (key.1 (hq.2.2.1 k hlt)).2.2]at h3;cases h3
  ·rw[QQ (by omega)]
   refine .cnt ⟨⟨k+1,rfl,hlt,λj hj=>?_⟩,by simp only;omega⟩
   by_cases e:j=k
   ·subst e;exact key.2 ⟨by omega,h2,of_decide_eq_true (by simpa using h3)⟩
   ·exact hall j (by omega)
 ·have hkk:k=f.Slots.length:=by omega
  subst hkk
  refine .chk (by omega) (.bne (λh1=>no (Q:=True) λhq=>h1 hq.2.2.2.1) λh1=>.dec (λh2=>no (Q:=True) λhq=>?_) λh2=>.dec (λh3=>no (Q:=True) λhq=>?_) λh3=>.pure ⟨.inl rfl,⟨λ_=>⟨hA,hL,hall,h1,?_,?_⟩,λ_=>rfl⟩⟩)
  ·have:=hq.2.2.2.2.1;omega
  ·have:=hq.2.2.2.2.2;simp only at h3;omega
  ·omega
  ·simp only at h3;omega
theorem Aay:(plK f.Slots (16*Rk p f f.Code.length) f.Slots.length).2<=(SW p f al).Size/\(SW p f al).Size<(plK f.Slots (16*Rk p f f.Code.length) f.Slots.length).2+al/\(SW p f al).Size.tmod al=0/\0<=16*Rk p f f.Code.length/\16*Rk p f f.Code.length<=(plK f.Slots (16*Rk p f f.Code.length) f.Slots.length).2/\(SW p f al).Size<=1000:=by
 have hr:=WS h.arg (k:=f.Code.length) (aAP _)
 have hsl:=h.slots.1
 have h16:=h.al16
 have h64:=h.al64
 have hp:=YR h.slots (a:=16*Rk p f f.Code.length) (by omega) (aAP _)
 obtain⟨u1,u2,u3⟩:=UP (n:=(plK f.Slots (16*Rk p f f.Code.length) f.Slots.length).2) (a:=al) (by omega)
 refine⟨u1,u2,?_,by omega,hp.2.1,?_⟩
 ·show(upN _ al).tmod al=0
  rw[aAR (by omega)]
  exact u3
 ·show upN _ al<=1000
  omega
theorem AaV {k:Nat} (hk:k<f.Slots.length):∃ o,(SW p f al).Off[k]? =some o/\(plK f.Slots (16*Rk p f f.Code.length) k).2<=o/\o+f.Slots[k].Size=(plK f.Slots (16*Rk p f f.Code.length) (k+1)).2/\o.tmod f.Slots[k].Align=0:=by
 have hr:=WS h.arg (k:=f.Code.length) (aAP _)
 have hp:=YR h.slots (a:=16*Rk p f f.Code.length) (by omega) (show k<=f.Slots.length by omega)
 obtain⟨h1,h2,h3,h4⟩:=h.slots.2 _ (aAF hk)
 obtain⟨u1,u2,u3⟩:=UP (n:=(plK f.Slots (16*Rk p f f.Code.length) k).2) (a:=f.Slots[k].Align) (by have:=h1.rng;omega)
 refine⟨_,AbL hk hk (aAP _),u1,(AbK hk).symm,?_⟩
 rw[aAR (by omega)]
 exact u3
theorem AbT:YO p f al (SW p f al):=by
 obtain⟨b1,b2,b3,b4,b5,b6⟩:=Aay h
 refine⟨rfl,XB (aAP _),λk hk=>?_,b3,?_,aAp _⟩
 ·obtain⟨o,e1,e2,e3,e4⟩:=AaV h hk
  have m1:=WX h.slots (a:=16*Rk p f f.Code.length) (j:=0) (k:=k) (by omega) (by omega)
  have m2:=WX h.slots (a:=16*Rk p f f.Code.length) (j:=k+1) (k:=f.Slots.length) hk (aAP _)
  have m0:(plK f.Slots (16*Rk p f f.Code.length) 0).2=16*Rk p f f.Code.length:=rfl
  have hs:=(h.slots.2 _ (aAF hk)).2.2
  refine⟨o,f.Slots[k],e1,aAD _,?_,e4,⟨?_,?_⟩⟩
  ·show 16*Rk p f f.Code.length<=o
   omega
  ·refine⟨?_,?_,?_,?_,?_⟩<;>simp only<;>omega
  ·simp only;omega
 ·show 16*Rk p f f.Code.length<=_
  omega
end
open Go Go.Dw Go.Proofs
theorem TO.max {a b:Int} (ha:TO a) (hb:TO b):TO (TR a b):=by unfold TR;split<;>assumption
theorem Acx {s:List Qu} (h:Uq s):Hs (Vc s) λa=>TO a/\16<=a/\a<=64:=by
 have a16:TO 16:=Tz 4 (by omega)
 have hl:=h.1
 unfold Vc
 refine(Acv s).bind λe he=>.bne (λ_=>.pure ⟨a16,by omega,by omega⟩) λ_=>?_
 refine Hs.loop (λq=>∃ k:Nat,q.2=(k:Int)/\k<=s.length/\TO q.1/\16<=q.1/\q.1<=64) (λq=>s.length-q.2.toNat) ⟨0,rfl,aAK _,a16,by simp only;omega,by simp only;omega⟩ ?_
 rintro⟨a,_⟩ ⟨k,rfl,hk,h1,h2,h3⟩
 replace h2:16<=a:=h2
 replace h3:a<=64:=h3
 unfold UQ
 dsimp only
 refine .dec (λhlt=>?_) λ_=>.lft (.pure ⟨h1,h2,h3⟩)
 have hlt:k<s.length:=by omega
 rw[QQ (by omega)]
 refine(Hs.ix (by omega) (by omega) λx hx=>h.2 x (aAB hx)).bind λx hx=>.cnt ⟨⟨k+1,rfl,hlt,h1.max hx.1,?_,?_⟩,by simp only;omega⟩
 ·have:=hx.2.1;simp only;unfold TR;split<;>omega
 ·have:=hx.2.1;simp only;unfold TR;split<;>omega
theorem Acr {p:Qj} (hp:p.Funcs.length<=1000) (h:∀ f∈p.Funcs,Uq f.Slots):Hs (Vg p) λa=>TO a/\16<=a/\a<=64:=by
 have a16:TO 16:=Tz 4 (by omega)
 unfold Vg
 refine Hs.loop (λq=>∃ k:Nat,q.2=(k:Int)/\k<=p.Funcs.length/\TO q.1/\16<=q.1/\q.1<=64) (λq=>p.Funcs.length-q.2.toNat) ⟨0,rfl,aAK _,a16,by simp only;omega,by simp only;omega⟩ ?_
 rintro⟨a,_⟩ ⟨k,rfl,hk,h1,h2,h3⟩
 replace h2:16<=a:=h2
 replace h3:a<=64:=h3
 unfold US
 dsimp only
 refine .dec (λhlt=>?_) λ_=>.lft (.pure ⟨h1,h2,h3⟩)
 have hlt:k<p.Funcs.length:=by omega
 rw[QQ (by omega)]
 refine(Hs.ix (by omega) (by omega) λx hx=>h x (aAB hx)).bind λx hx=>(Acx hx).bind λb hb=>.cnt ⟨⟨k+1,rfl,hlt,h1.max hb.1,?_,?_⟩,by simp only;omega⟩
 ·simp only;unfold TR;split<;>omega
 ·simp only;unfold TR;split<;>omega
theorem TP.args {ps:List Int} {i most:Int} {f:Qo} (h:TP ps i most f) (hi:0<=i) {p:Qj} (hl:p.Funcs.length=ps.length) (hps:YN ps) (hall:∀ (j:Nat) g,p.Funcs[j]? =some g->TP ps j most g):ZA p f:=by
 intro x hx
 obtain⟨k,hk⟩:=List.getElem?_of_mem hx
 have hkl:=(aAI.1 hk).1
 by_cases hk1:k+1<f.Code.length
 ·have hins:=h.body k x hk hk1
  cases hins with
  | call j h0 h1 =>
   refine⟨λe=>by simp at e,λ_=>⟨by simp only;omega,?_⟩⟩
   have hg:p.Funcs[j.toNat]? =some (p.Funcs[j.toNat]'(by omega)):=aAD _
   have:=(hall _ _ hg).par
   exact⟨_,hg,hps.1 _ (aAB this)⟩
  | arg a b h0 h1 h2=>exact⟨λ_=>⟨h0,h1⟩,λe=>by simp at e⟩
  | bin op a b c h1 h2 h3 h4 h5 h6=>exact⟨λe=>by simp only at e;omega,λe=>by simp only at e;omega⟩
  | un op a h1 h2=>exact⟨λe=>by simp only at e;omega,λe=>by simp only at e;omega⟩
  | _=>exact⟨λe=>by simp at e,λe=>by simp at e⟩
 ·have he:=h.last x (by rw[show f.Code.length-1=k by omega];exact hk)
  rcases he with rfl|⟨w,_,rfl⟩<;>exact⟨λe=>by simp at e,λe=>by simp at e⟩
open Go Go.Dw Go.Proofs
theorem YP (n:Int):R64 (IntKind.i64.wrap n):=by
 unfold R64
 simp[aAb,aAV,aAX];omega
theorem Td {op a b c w:Int} (h1: -9223372036854775808<=a/\a<=9223372036854775807) (h2: -9223372036854775808<=b/\b<=9223372036854775807) (h3: -9223372036854775808<=c/\c<=9223372036854775807) (h4:0<=w/\w<18446744073709551616):X07 ⟨op,a,b,c,w⟩:=⟨h1,h2,h3,h4.1,h4.2⟩
theorem QM.x07 {sl:List Qu} {np i:Int} {ps:List Int} {T:Int->Prop} {x:Ed} (h:QM sl np i ps T x) (hsl:sl.length<=1000) (hps:ps.length<=1000) (hnp:np<=1000) (hT:∀ t,T t->0<=t/\t<=100000) (hi:0<=i):X07 x:=by
 cases h with
 | store a b h0 h1 h2=>obtain⟨h3,h4⟩:=h2;exact Td (by omega) (by omega) (by omega) (by omega)
 | load a b h2 h0 h1=>obtain⟨h3,h4⟩:=h2;exact Td (by omega) (by omega) (by omega) (by omega)
 | move a b h2 h0 h1=>obtain⟨h3,h4,_⟩:=h2;exact Td (by omega) (by omega) (by omega) (by omega)
 | const a w h2 h3=>obtain⟨h4,h5⟩:=h2;obtain⟨h6,h7⟩:=h3;exact Td (by omega) (by omega) (by omega) (by omega)
 | bin op a b c h0 h1 h2 h3 h4 h5=>obtain⟨h6,h7⟩:=h2;obtain⟨h8,h9⟩:=h3;exact Td (by omega) (by omega) (by omega) (by omega)
 | out a h2=>obtain⟨h3,h4⟩:=h2;exact Td (by omega) (by omega) (by omega) (by omega)
 | un op a _ h2=>obtain⟨h3,h4⟩:=h2;exact Td (by omega) (by omega) (by omega) (by omega)
 | param a b h2 h0 h1=>obtain⟨h3,h4⟩:=h2;exact Td (by omega) (by omega) (by omega) (by omega)
 | arg a b h0 h1 h2=>obtain⟨h3,h4⟩:=h2;exact Td (by omega) (by omega) (by omega) (by omega)
 | call j h0 h1=> exact Td (by omega) (by omega) (by omega) (by omega)
 | jump t h0=>have:=hT t h0;exact Td (by omega) (by omega) (by omega) (by omega)
 | branch a t h2 h0=>have:=hT t h0;obtain⟨h3,h4⟩:=h2;exact Td (by omega) (by omega) (by omega) (by omega)
theorem WE.x07 {x:Ed} (h:WE x):X07 x:=by
 rcases h with rfl|⟨w,⟨h1,h2⟩,rfl⟩
 ·exact Td (by omega) (by omega) (by omega) (by omega)
 ·exact Td (by omega) (by omega) (by omega) ⟨h1,h2⟩
theorem WK {c:BS} (h:okC c):Hs (Rl c) λr=>okC r.2/\R64 r.1:=by
 unfold Rl
 refine(Qt h (by omega) (by omega)).bind λr hr=>.cond (λ_=>?_) λ_=>?_
 ·refine(Qt hr.1 (by simp) (by simp)).bind λq hq=>.chk ⟨hq.2.1,hq.2.2⟩ ?_
  refine(Hs.get hq.2.1 hq.2.2 λx hx=>aAB hx).bind λx hx=>.pure ⟨hq.1,?_⟩
  simp only[aAM,aAO,or_false]at hx
  exact⟨by omega,by omega⟩
 ·refine(Qt hr.1 (by omega) (by omega)).bind λq hq=>(Qt hq.1 (by omega) (by omega)).bind λs hs=>.chk hs.2.1 (.pure ⟨hs.1,YP _⟩)
theorem XK {l:List Ed} (h:∀ x∈l,X07 x) {k:Nat} {y:Ed} (hy:X07 y):∀ x∈l.set k y,X07 x:=λx hx=>(aAU hx).elim (h x) λe=>e▸hy
open Go Go.Dw Go.Proofs
structure Low (f:Qo) (x:Ed):Prop where
 r:X07 x
 l:x.Op=15->0<=x.B/\x.B<f.Slots.length
 s:x.Op=16->0<=x.A/\x.A<f.Slots.length
 m:x.Op=17->0<=x.A/\x.A<f.Slots.length/\0<=x.B/\x.B<f.Slots.length
theorem TP.low {ps:List Int} {i:Nat} {f:Qo} (h:TP ps i 10 f) (hps:YN ps):∀ x∈f.Code,Low f x:=by
 intro x hx
 have hpar:=hps.1 f.Params (aAB h.par)
 have hlen:=hps.2
 have h57:f.Code.length<=57:=by have:=h.len';omega
 obtain⟨k,hk⟩:=aAd.1 hx
 have hlt:=(aAI.1 hk).1
 by_cases hl:k+1<f.Code.length
 ·have hi:=h.body k x hk hl
  have hx7:=hi.x07 (by have:=h.slots;omega) (by omega) (by omega) (λt ht=>⟨ht.1,by omega⟩) (by omega)
  refine⟨hx7,?_,?_,?_⟩<;>intro he<;>cases hi<;>simp only at he<;>first|omega|skip
  ·exact⟨‹_›,‹_›⟩
  ·exact⟨‹_›,‹_›⟩
  ·rename_i a b h1 h2 h3;exact⟨h1.1,h1.2.1,h2,h3⟩
 ·obtain rfl:k=f.Code.length-1:=by omega
  have he:=h.last x hk
  refine⟨he.x07,?_,?_,?_⟩<;>intro h1<;>rcases he with rfl|⟨w,_,rfl⟩<;>simp at h1
def LyR (f:Qo) (y:Qn):Prop:=y.Off.length=f.Slots.length/\0<=y.Size/\y.Size<=1000/\∀ o∈y.Off,0<=o/\o<=1000
def WR (x:Ed):Prop:=X07 x/\(x.Op=16->0<=x.C)
theorem Xz {op a b c:Int} (h1: -9223372036854775808<=a/\a<=9223372036854775807) (h2: -9223372036854775808<=b/\b<=9223372036854775807) (h3:0<=c/\c<=9223372036854775807):WR ⟨op,a,b,c,0⟩:=⟨Td h1 h2 (by omega) (by omega),λ_=>h3.1⟩
theorem Aee {f:Qo} {y:Qn} {x:Ed} (hf:Uq f.Slots) (hy:LyR f y) (hx:Low f x):Hs (Vj f y x) WR:=by
 obtain⟨y1,y2,y3,y4⟩:=hy
 have off:∀ {i:Int},0<=i/\i<f.Slots.length->Hs (ixO y.Off i) λo=>0<=o/\o<=1000:=λh=>Hs.ix h.1 (by omega) λo ho=>y4 o (aAB ho)
 have sl:∀ {i:Int},0<=i/\i<f.Slots.length->Hs (ixO f.Slots i) λo=>1<=o.Size/\o.Size<=16:=λh=>Hs.ix h.1 h.2 λo ho=>(hf.2 o (aAB ho)).2.2
 obtain⟨xa,xb,xc,xi,xj⟩:=hx.r
 unfold R64 at xa xb xc
 unfold Vj
 refine .beq (λh=>?_) λ_=>.beq (λh=>?_) λh16=>.beq (λh=>?_) λ_=>.beq (λh=>?_) λ_=>.beq (λh=>?_) λ_=>.pure ⟨hx.r,λh=>absurd h h16⟩
 ·exact(off (hx.l h)).bind λo ho=>(sl (hx.l h)).bind λs hs=>.pure (Xz xa (by omega) (by omega))
 ·exact(off (hx.s h)).bind λo ho=>(sl (hx.s h)).bind λs hs=>.pure (Xz (by omega) xb (by omega))
 ·have hm:=hx.m h
  exact(off ⟨hm.1,hm.2.1⟩).bind λo ho=>(off hm.2.2).bind λo' ho'=>(sl ⟨hm.1,hm.2.1⟩).bind λs hs=>.pure (Xz (by omega) (by omega) (by omega))
 ·exact .pure (Xz (YP _) xb (by omega))
 ·exact .pure (Xz xa (YP _) (by omega))
structure FrD (f:Qk):Prop where
 p:R64 f.Params
 s0:0<=f.Size
 s1:f.Size<=1000
 x:∀ x∈f.Code,WR x
 n:f.Code.length<=57
theorem AcS {p:Qj} {i:Int} {f:Qo} {y:Qn} (hi:ixO p.Funcs i=some f) (hf:Uq f.Slots) (hp:R64 f.Params) (hn:f.Code.length<=57) (hlow:∀ x∈f.Code,Low f x) (hy:LyR f y):Hs (Vi p i y) FrD:=by
 unfold Vi
 rw[hi,aA]
 refine Hs.loop (λq=>∃ k:Nat,q.2=(k:Int)/\k<=f.Code.length/\q.1.length=k/\∀ x∈q.1,WR x) (λq=>f.Code.length-q.2.toNat) ⟨0,rfl,aAK _,rfl,by simp⟩ ?_
 rintro⟨code,_⟩ ⟨k,rfl,hk,h1,h2⟩
 replace h1:code.length=k:=h1
 unfold UW
 dsimp only
 refine .dec (λhlt=>?_) λhge=>.lft (.pure ⟨hp,hy.2.1,hy.2.2.1,h2,by simp only;omega⟩)
 have hlt:k<f.Code.length:=by omega
 rw[QQ (by omega)]
 refine(Hs.ix (by omega) (by omega) λx hx=>hlow x (aAB hx)).bind λx hx=>(Aee hf hy hx).bind λz hz=>.chk (by simp;omega) (.cnt ⟨⟨k+1,rfl,hlt,by simp[h1],λv hv=>?_⟩,by simp only;omega⟩)
 rcases aAJ.1 hv with hv|hv
 ·exact h2 v hv
 ·obtain rfl:=aAG.1 hv;exact hz
theorem AcH {p:Qj} {i:Int} {f:Qo} {al:Int} (h:AbS p i f al):LyR f (SW p f al):=by
 obtain⟨b1,b2,b3,b4,b5,b6⟩:=Aay h
 refine⟨XB (aAP _),by omega,b6,λo ho=>?_⟩
 obtain⟨k,hk⟩:=aAd.1 ho
 have hlt:k<f.Slots.length:=by have:=(aAI.1 hk).1;rw[show(SW p f al).Off.length=f.Slots.length from XB (aAP _)]at this;exact this
 obtain⟨o',e1,e2,e3,e4⟩:=AaV h hlt
 rw[hk]at e1;cases e1
 have m1:=WX h.slots (a:=16*Rk p f f.Code.length) (j:=0) (k:=k) (by omega) (by omega)
 have m2:=WX h.slots (a:=16*Rk p f f.Code.length) (j:=k+1) (k:=f.Slots.length) hlt (aAP _)
 have m0:(plK f.Slots (16*Rk p f f.Code.length) 0).2=16*Rk p f f.Code.length:=rfl
 have hs:=(h.slots.2 _ (aAF hlt)).2.2
 omega
structure AcG (p:Qj) (al:Int):Prop where
 b:∀ (i:Nat) f,p.Funcs[i]? =some f->AbS p i f al/\(∀ x∈f.Code,Low f x)/\R64 f.Params/\f.Code.length<=57
 n:p.Funcs.length<=4
 n0:1<=p.Funcs.length
 al:R64 al
theorem AcI {p:Qj} {al:Int} (h:AcG p al):SP p al=some (p.Funcs.map λf=>SW p f al,0):=by
 have hn:=h.n
 have:Hs (SP p al) λr=>r=(p.Funcs.map λf=>SW p f al,0):=by
  unfold SP
  refine Hs.loop (λq=>∃ k:Nat,q=((p.Funcs.take k).map λf=>SW p f al,(k:Int))/\k<=p.Funcs.length) (λq=>p.Funcs.length-q.2.toNat) ⟨0,rfl,aAK _⟩ ?_
  rintro _ ⟨k,rfl,hk⟩
  unfold Tx
  dsimp only
  refine .dec (λhlt=>?_) λhge=>.lft (.pure ?_)
  ·have hlt:k<p.Funcs.length:=by omega
   have e:p.Funcs[k]? =some p.Funcs[k]:=aAD hlt
   have hb:=(h.b k _ e).1
   rw[Abj hb.hi hb.len' hb.arg hb.slots hb.alok hb.al64,aA]
   simp only[bne_self_eq_false,cond_false]
   rw[QQ (by omega)]
   refine .chk (by simp;omega) (.cnt ⟨⟨k+1,by rw[Ym _ e],hlt⟩,by simp only;omega⟩)
  ·have:k=p.Funcs.length:=by omega
   subst this;rw[List.take_length];exact rfl
 obtain⟨r,h,rfl⟩:=this
 exact h
theorem Acg {p:Qj} {al:Int} (h:AcG p al):Hs (UM p al (p.Funcs.map λf=>SW p f al)) λq=>q.1.Align=al/\q.1.Frames.length=p.Funcs.length/\∀ f∈q.1.Frames,FrD f:=by
 have hn:=h.n
 unfold UM
 simp only[aAa,bne_self_eq_false,cond_false]
 refine Hs.loop (λq=>∃ k:Nat,q.2=(k:Int)/\k<=p.Funcs.length/\q.1.length=k/\∀ x∈q.1,FrD x) (λq=>p.Funcs.length-q.2.toNat) ⟨0,rfl,aAK _,rfl,by simp⟩ ?_
 rintro⟨fr,_⟩ ⟨k,rfl,hk,h1,h2⟩
 replace h1:fr.length=k:=h1
 unfold UF
 dsimp only
 simp only[aAa]
 refine .dec (λhlt=>?_) λhge=>.lft (.pure ⟨rfl,by simp only;omega,h2⟩)
 have hlt:k<p.Funcs.length:=by omega
 have e:p.Funcs[k]? =some p.Funcs[k]:=aAD hlt
 obtain⟨hb,hlow,hp,hc⟩:=h.b k _ e
 have em:ixO (p.Funcs.map λf=>SW p f al) (k:Int)=some (SW p p.Funcs[k] al):=by rw[TQ,List.getElem?_map,e];rfl
 obtain⟨z,hz,hz1,hz2⟩:=Acu hb (SW p p.Funcs[k] al)
 obtain rfl:z=0:=hz2.2 (AbT hb)
 simp only[em,aA,hz,bne_self_eq_false,cond_false]
 rw[QQ (by omega)]
 refine(AcS hb.hi hb.slots hp hc hlow (AcH hb)).bind λz hz=>.chk (by simp;omega) (.cnt ⟨⟨k+1,rfl,hlt,by simp[h1],λv hv=>?_⟩,by simp only;omega⟩)
 rcases aAJ.1 hv with hv|hv
 ·exact h2 v hv
 ·obtain rfl:=aAG.1 hv;exact hz
theorem AaT.AeF {p:Qj} (h:AaT 4 10 p) {al:Int} (ha:TO al/\16<=al/\al<=64):AcG p al:=by
 obtain⟨ps,hps,_,h1,h4,hl,hf⟩:=h
 refine⟨λi f hi=>?_,by omega,by omega,⟨by omega,by omega⟩⟩
 have hfo:=hf i f hi
 have hpar:=hps.1 f.Params (aAB hfo.par)
 have h57:f.Code.length<=57:=by have:=hfo.len';omega
 exact⟨⟨by rw[TQ];exact hi,hfo.args (by omega) hl hps hf,hfo.AbN,ha.1,ha.2.1,ha.2.2,by omega⟩,hfo.low hps,⟨by omega,by omega⟩,h57⟩
structure TgD (t:Pw):Prop where
 a:R64 t.Align
 f:∀ f∈t.Frames,FrD f
 n:t.Frames.length<=4
 n0:1<=t.Frames.length
theorem AeO {l:List Ed} (h:∀ x∈l,WR x) {k:Nat} {y:Ed} (hy:WR y):∀ x∈l.set k y,WR x:=λx hx=>(aAU hx).elim (h x) λe=>e▸hy
theorem Adh {fr:List Qk} (hfr:∀ f∈fr,FrD f) (hn:fr.length<=4) {k:Nat} (hk:k<fr.length) {c:List Int} {a:Int} (hc:okC ⟨c,a⟩) {code:List Ed} (h57:code.length<=57) (hx:∀ x∈code,WR x) :
  Hs (Qv (λs=>Sl (k:Int) fr s.1 s.2.1 s.2.2.1 s.2.2.2) (c,a,code,0)) λr=>∃ l b g,r= .inl (l,b,g,((k+1:Nat):Int))/\okC ⟨l,b⟩/\g.length=fr.length/\∀ f∈g,FrD f:=by
 have hend:∀ {l:List Int} {b:Int} {code:List Ed},okC ⟨l,b⟩->code.length<=57->(∀ x∈code,WR x) ->
   Hs (chk (0<=(k:Int)/\(k:Int)<fr.length)<|((fr)[(k:Int).toNat]?).bind λo=>Rv (k:Int) l b (fr.set (k:Int).toNat (Qk.mk o.Params o.Size code))) λr=>∃ l b g,r= .inl (l,b,g,((k+1:Nat):Int))/\okC ⟨l,b⟩/\g.length=fr.length/\∀ f∈g,FrD f:=by
  intro l b code hc h57 hx
  refine .chk (by omega) ((Hs.get (by omega) (by omega) λf hf=>hfr f (aAB hf)).bind λf hf=>?_)
  unfold Rv
  rw[QQ (by omega)]
  refine .cnt ⟨_,_,_,rfl,hc,by simp,λg hg=>?_⟩
  rcases aAU hg with h|rfl
  ·exact hfr g h
  ·exact⟨hf.p,hf.s0,hf.s1,hx,h57⟩
 refine Hs.loop (λs=>okC ⟨s.1,s.2.1⟩/\s.2.2.1.length<=57/\(∀ x∈s.2.2.1,WR x)/\∃ q:Nat,s.2.2.2=(q:Int)/\q<=s.2.2.1.length) (λs=>58-s.2.2.2.toNat) ⟨hc,h57,hx,0,rfl,aAK _⟩ ?_
 rintro⟨l,b,code,_⟩ ⟨hc,h57,hx,q,rfl,hq⟩
 replace h57:code.length<=57:=h57
 replace hq:q<=code.length:=hq
 unfold Sl
 dsimp only
 refine .dec (λhlt=>(VT hc (by omega)).bind λr hr=>.cond (λ_=>?_) λ_=>.lft (hend hr.1 h57 hx)) λ_=>.lft (hend hc h57 hx)
 have hlt:q<code.length:=by omega
 have j5:∀ {e:Ed} {v:Bool},(v=true->0<=e.C/\∀ f,fr[k]? =some f->e.C<=f.Size)->Hs (Rx (k:Int) fr r.2.list r.2.at_ e (q:Int) code v) (Rnd (λs=>okC ⟨s.1,s.2.1⟩/\s.2.2.1.length<=57/\(∀ x∈s.2.2.1,WR x)/\∃ q:Nat,s.2.2.2=(q:Int)/\q<=s.2.2.1.length) (λs:List Int×Int×List Ed×Int=>58-s.2.2.2.toNat) (l,b,code,(q:Int)) λr=>∃ l b g,r= .inl (l,b,g,((k+1:Nat):Int))/\okC ⟨l,b⟩/\g.length=fr.length/\∀ f∈g,FrD f):=by
  intro e v hv
  unfold Rx
  rw[QQ (by omega)]
  refine .cond (λh=>?_) λ_=>.cnt ⟨⟨hr.1,h57,hx,q+1,rfl,hlt⟩,by simp only;omega⟩
  obtain⟨hc0,hc1⟩:=hv h
  refine .chk (by omega) ((Hs.get (by omega) (by omega) λf hf=>(⟨hfr f (aAB hf),hc1 f (by simpa using hf)⟩:FrD f/\e.C<=f.Size)).bind λf hf=>?_)
  have:=hf.1.s1
  have:=hf.2
  rw[wrap64 (n:=f.Size-e.C) (by omega) (by omega),wrap64 (by omega) (by omega)]
  refine(VT hr.1 (by omega)).bind λu hu=>.chk (by omega) ((Hs.get (by omega) (by omega) λx hx'=>hx x (aAB hx')).bind λx hx'=>.cnt ⟨⟨hu.1,by simpa using h57,AeO hx ?_,q+1,rfl,by simp only[List.length_set];omega⟩,by simp only;omega⟩)
  obtain⟨⟨xa,xb,xc,xi,xj⟩,xd⟩:=hx'
  exact⟨⟨⟨by simp only;omega,by simp only;omega⟩,xb,xc,xi,xj⟩,xd⟩
 unfold SY
 refine .chk (by omega) ((Hs.get (by omega) (by omega) λx hx'=>hx x (aAB hx')).bind λx hx'=>.beq (λh16=>?_) λ_=>j5 λh=>by cases h)
 refine .chk (by omega) ((Hs.get (by omega) (by omega) λf hf=>(show fr[k]? =some f by simpa using hf)).bind λf hf=>j5 λh=>⟨hx'.2 h16,λf' hf'=>?_⟩)
 rw[hf]at hf';cases hf'
 exact of_decide_eq_true h
theorem AcB {c:BS} (h:okC c):Hs (SR c 4 10) λr=>okC r.2/\TgD r.1:=by
 unfold SR
 refine(Acd h (by omega) (by omega) (by omega) (by omega)).bind λq hq=>?_
 have hsl:∀ f∈q.1.Funcs,Uq f.Slots:=by
  obtain⟨ps,hps,_,h1,h4,hl,hf⟩:=hq.2
  intro f hf'
  obtain⟨j,hj⟩:=aAd.1 hf'
  exact(hf j f hj).AbN
 have hlen:q.1.Funcs.length<=1000:=by obtain⟨ps,hps,_,h1,h4,hl,hf⟩:=hq.2;omega
 refine(Acr hlen hsl).bind λal ha=>?_
 have hp:=hq.2.AeF ha
 have hn:=hp.n
 rw[AcI hp,aA]
 refine(Acg hp).bind λt ht=>?_
 have hl:=ht.2.1
 simp only[aAQ,aAE,Nat.zero_add]
 refine .chk (by omega) ?_
 refine Hs.loop (λs=>okC ⟨s.1,s.2.1⟩/\s.2.2.1.length=q.1.Funcs.length/\(∀ x∈s.2.2.1,FrD x)/\∃ k:Nat,s.2.2.2=(k:Int)/\k<=q.1.Funcs.length) (λs=>q.1.Funcs.length-s.2.2.2.toNat) ⟨hq.1,hl,ht.2.2,0,rfl,aAK _⟩ ?_
 rintro⟨l,b,fr,_⟩ ⟨hc,hfl,hfr,k,rfl,hk⟩
 replace hfl:fr.length=q.1.Funcs.length:=hfl
 unfold SX
 dsimp only
 refine .dec (λhlt=>?_) λhge=>.lft (.pure ⟨hc,⟨by simp only;rw[ht.1];exact hp.al,hfr,by simp only;omega,by simp only;have:=hp.n0;omega⟩⟩)
 have hlt:k<fr.length:=by omega
 refine .chk (by omega) ((Hs.get (by omega) (by omega) λf hf=>hfr f (aAB hf)).bind λf hf=>?_)
 have:=hf.n
 simp only[aAQ,aAE,Nat.zero_add]
 refine .chk (by omega) ((Adh hfr (show fr.length<=4 by omega) hlt hc hf.n hf.x).mono ?_)
 rintro _ ⟨l',b',g,rfl,h1,h2,h3⟩
 exact⟨⟨h1,h2.trans hfl,h3,k+1,rfl,by omega⟩,by simp only;omega⟩
theorem FrD.r {f:Qk} (h:FrD f):ZT f:=⟨h.p,⟨by have:=h.s0;omega,by have:=h.s1;omega⟩,λx hx=>(h.x x hx).1,by have:=h.n;omega⟩
theorem TgD.r {t:Pw} (h:TgD t):Wo t:=⟨h.a,λf hf=>(h.f f hf).r,by have:=h.n;omega⟩
theorem AdA {c:BS} (h:okC c) {t:Pw} (ht:TgD t):Hs (Si c t) λq=>Wo q.1:=by
 have hn:=ht.n
 have hn0:=ht.n0
 unfold Si
 simp only[aAQ,aAE,Nat.zero_add]
 refine .chk (by omega) ((Qt h (by omega) (by omega)).bind λr3 hr3=>.chk ⟨hr3.2.1,hr3.2.2⟩ ?_)
 refine(Hs.get hr3.2.1 hr3.2.2 λf hf=>ht.f f (aAB hf)).bind λf hf=>?_
 have h57:=hf.n
 refine .beq (λ_=>.pure ht.r) λh0=>.chk (by omega) ?_
 have j1:∀ {l:List Int} {a:Int} {x8:List Ed} {f9 f10:Int},okC ⟨l,a⟩->(∀ x∈x8,X07 x)->x8.length<=57->R64 f9->R64 f10->Hs (Qq r3 t l a x8 f9 f10) λq=>Wo q.1:=by
  intro l a x8 f9 f10 hc hx hl h9 h10
  have hset:∀ g∈t.Frames.set r3.1.toNat (Qk.mk f9 f10 x8),ZT g:=λg hg=>(aAU hg).elim (λh=>(ht.f g h).r) λe=>e▸⟨h9,h10,hx,by simp only;omega⟩
  unfold Qq
  simp only[aAQ]
  refine .chk ⟨hr3.2.1,hr3.2.2⟩ ((Hs.get (P:=λ_=>True) hr3.2.1 hr3.2.2 λ_ _=>trivial).bind λ_ _=>(VT hc (by omega)).bind λr hr=>.cond (λ_=>(WK hr.1).bind λu hu=>.pure ⟨hu.2,hset,by simp;omega⟩) λ_=>.pure ⟨ht.a,hset,by simp;omega⟩)
 refine(Qt hr3.1 (by omega) (by omega)).bind λr5 hr5=>(VT hr5.1 (by omega)).bind λr14 hr14=>?_
 have hx:∀ x∈f.Code,X07 x:=λx hx=>(hf.x x hx).1
 have hs:R64 f.Size:=hf.r.s
 have get:∀ {β:Type} {K:Ed->Option β} {Q:β->Prop},(∀ x,X07 x->Hs (K x) Q)->Hs (chk (0<=r5.1/\r5.1<f.Code.length)<|(f.Code[r5.1.toNat]?).bind K) Q:=λhK=>.chk ⟨hr5.2.1,hr5.2.2⟩ ((Hs.get hr5.2.1 hr5.2.2 λx hx'=>hx x (aAB hx')).bind hK)
 refine .beq (λ_=>(VT hr14.1 (by omega)).bind λr hr=>get λx hx'=>j1 hr.1 (XK hx ⟨hx'.a,hx'.b,hx'.c,hx'.i0,hx'.i1⟩) (by simpa using h57) hf.p hs) λ_=>?_
 refine .beq (λ_=>(WK hr14.1).bind λr hr=>get λx hx'=>j1 hr.1 (XK hx ⟨hr.2,hx'.b,hx'.c,hx'.i0,hx'.i1⟩) (by simpa using h57) hf.p hs) λ_=>?_
 refine .beq (λ_=>(WK hr14.1).bind λr hr=>get λx hx'=>j1 hr.1 (XK hx ⟨hx'.a,hr.2,hx'.c,hx'.i0,hx'.i1⟩) (by simpa using h57) hf.p hs) λ_=>?_
 refine .beq (λ_=>(WK hr14.1).bind λr hr=>get λx hx'=>j1 hr.1 (XK hx ⟨hx'.a,hx'.b,hr.2,hx'.i0,hx'.i1⟩) (by simpa using h57) hf.p hs) λ_=>?_
 refine .beq (λ_=>(Aaw hr14.1).bind λr hr=>get λx hx'=>j1 hr.1 (XK hx ⟨hx'.a,hx'.b,hx'.c,hr.2.1,hr.2.2⟩) (by simpa using h57) hf.p hs) λ_=>?_
 refine .beq (λ_=>(WK hr14.1).bind λr hr=>j1 hr.1 hx h57 hr.2 hs) λ_=>?_
 refine .beq (λ_=>(VT hr14.1 (by omega)).bind λr hr=>j1 hr.1 hx h57 hf.p (YP _)) λ_=>?_
 refine .beq (λ_=>.chk ⟨hr5.2.1,by omega⟩ (j1 hr14.1 (λx hx'=>hx x (aAY hx')) (by simp only[aAc];omega) hf.p hs)) λ_=>?_
 exact .beq (λ_=>(WK hr14.1).bind λr hr=>j1 hr.1 hx h57 hf.p hr.2) λ_=>j1 hr14.1 hx h57 hf.p hs
open Go Go.Dw Go.Proofs
theorem Adn:Wb=some true:=by decide
theorem Zn (k:Int):∃ r,Ss k=some r/\UN k=some r:=by
 have:∃ r,Ss k=some r:=by
  unfold Ss
  cases (k==0)<;>cases (k==1)<;>cases (k==2)<;>exact⟨_,rfl⟩
 obtain⟨r,hr⟩:=this
 exact⟨r,hr,hr⟩
theorem Ack (n:Int):Hs (Qv (λs=>Rh n s) (-1)) λb=>b=true:=by
 refine Hs.loop (λk=>-1<=k/\k<=5) (λk=>(5-k).toNat) ⟨by omega,by omega⟩ ?_
 rintro k ⟨h0,h1⟩
 obtain⟨r,e1,e2⟩:=Zn k
 obtain⟨q,e3,e4⟩:=Zn n
 unfold Rh
 simp only[e1,e2,e3,e4,aA,beq_self_eq_true,aAj,cond_false]
 refine .dec (λhlt=>?_) λ_=>.lft (.pure rfl)
 rw[wrap64 (by omega) (by omega)]
 exact .cnt ⟨⟨by omega,by omega⟩,by simp only;omega⟩
theorem AdI {a b c:Pw} (ha:Wo a) (hb:Wo b) (hc:Wo c) (x y:BS) (n:Int):Hs (Qv (λs=>Rg a (b,x) (c,y) n s) 0) λb=>b=true:=by
 refine Hs.loop (λk=>0<=k/\k<=3) (λk=>(3-k).toNat) ⟨by omega,by omega⟩ ?_
 rintro k ⟨h0,h1⟩
 unfold Rg
 refine .dec (λhlt=>.chk ⟨h0,by omega⟩ ?_) λ_=>.lft (Ack n)
 refine(Hs.get h0 (by omega) λt ht=>(show Wo t by
  have:=aAB ht
  simp only[aAM,aAO,or_false]at this
  rcases this with rfl|rfl|rfl
  ·exact ha
  ·exact hb
  ·exact hc)).bind λt ht=>?_
 have h3:k<3:=by simpa using hlt
 simp only[Aeg ht,Aes ht,aA,beq_self_eq_true,aAj,cond_false]
 rw[wrap64 (by omega) (by omega)]
 exact .cnt ⟨⟨by omega,by omega⟩,by simp only;omega⟩
theorem Aeh {codes:List Int} (hc:qL (Sh .u8) codes) {raw:Pw} (n size:Int) (hr:size<=300->Wo raw):Hs (QH codes raw n size) λb=>b=true:=by
 unfold QH
 rw[Adn,aA]
 simp only[aAj,cond_false]
 refine .dec (λh=>.pure (decide_eq_true h)) λh=>?_
 unfold RC
 obtain⟨c,e,hc⟩:=Aef codes 250 hc (by omega) (by omega)
 rw[e,aA]
 refine(AcB hc).bind λt ht=>(AdA ht.1 ht.2).bind λo ho=>?_
 exact AdI (hr (by omega)) ht.2.r ho t.2 o.2 n
def XY (l:List Qk):Nat:=(l.map λf=>f.Code.length).sum
theorem Abo:∀ {l:List Qk} {f:Qk},f∈l->f.Code.length<=XY l
 | x::l,f,h=>by
  simp only[XY,aAs,List.sum_cons]
  rcases aAM.1 h with rfl|h
  ·omega
  ·have:=Abo h;simp only[XY]at this;omega
theorem VK (codes:List Int) (raw:Pw) (n:Int) (hc:qL (Sh .u8) codes) (hr:AbM raw) (_:Sh .i64 n):Rr codes raw n=some true:=by
 obtain⟨ha,hl,hf⟩:=hr
 have key:Hs (Rr codes raw n) λb=>b=true:=by
  unfold Rr
  refine Hs.loop (λq=>∃ k:Nat,q.2=(k:Int)/\k<=raw.Frames.length/\q.1=((raw.Frames.length+XY (raw.Frames.take k):Nat):Int)) (λq=>raw.Frames.length-q.2.toNat) ⟨0,rfl,aAK _,by simp[XY]⟩ ?_
  rintro⟨_,_⟩ ⟨k,rfl,hk,rfl⟩
  have hend:∀ m:Nat,(m<=300->k=raw.Frames.length/\m=raw.Frames.length+XY raw.Frames)->Hs (QH codes raw n (m:Int)) λb=>b=true:=by
   intro m hm
   refine Aeh hc n _ λh=>?_
   obtain⟨_,h2⟩:=hm (by omega)
   refine⟨⟨ha.1,ha.2⟩,λf hf'=>?_,by omega⟩
   obtain⟨h3,h4,h5,h6⟩:=hf f hf'
   have:=Abo hf'
   refine⟨⟨h3.1,h3.2⟩,⟨h4.1,h4.2⟩,λx hx=>?_,by omega⟩
   obtain⟨_,g2,g3,g4,g5⟩:=h6 x hx
   exact⟨⟨g2.1,g2.2⟩,⟨g3.1,g3.2⟩,⟨g4.1,g4.2⟩,g5.1,Int.lt_of_le_of_lt g5.2 (by decide)⟩
  unfold RB
  dsimp only
  refine .dec (λhlt=>.dec (λh300=>?_) λh300=>.lft (hend _ λh=>by omega)) λhge=>.lft (hend _ λh=>?_)
  ·have hlt:k<raw.Frames.length:=by omega
   unfold RD
   have e:raw.Frames[k]? =some raw.Frames[k]:=aAD hlt
   rw[TQ,e,aA,QQ (by omega)]
   have hcl:=(hf _ (aAF hlt)).2.2.1
   rw[wrap64 (by omega) (by omega)]
   refine .cnt ⟨⟨k+1,rfl,hlt,?_⟩,by simp only;omega⟩
   have:XY (raw.Frames.take (k+1))=XY (raw.Frames.take k)+raw.Frames[k].Code.length:=by
    unfold XY
    rw[Ym _ e];simp
   simp only[this];omega
  ·obtain rfl:k=raw.Frames.length:=by omega
   exact⟨rfl,by rw[List.take_length]⟩
 obtain⟨r,h,rfl⟩:=key
 exact h
end Go.Proofs.YtcppfbhmhlhncaaDoor
