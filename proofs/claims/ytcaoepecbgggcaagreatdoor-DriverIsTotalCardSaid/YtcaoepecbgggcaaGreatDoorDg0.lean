/-
  callgraph.counts by hand: the map of the calls.
-/
import Derived.Test.YtcaoepecbgggcaaGreatDoorProg
import Derived.WalkKit
import Derived.Maps.RangeWalk
import Derived.WideKeyEntry
import Derived.Lib.Hide
open Go.Instr renaming mapEntry->aA,mapUpdate->aAB
open List renaming getElem?_eq_getElem->aAA
namespace Go.Proofs.YtcaoepecbgggcaaGreatDoor
open Go Go.Proofs Go.RowKit Go.WideMaps Go.Maps Go.WideElems
theorem Tryz.mixed:Tryz.prog.follows .mixedOrders=true:=by kernel_rfl
theorem AyF:ArrKey Tryz.prog 190 3 2:=⟨Tryz.underlying190,by kernel_rfl,by kernel_rfl,by kernel_rfl⟩
theorem AvQ:KeyLaw Tryz.prog 190:=AyF.law
theorem Akj:Keyed Tryz.prog 190:=Keyed.of_law AvQ
def KL (a b:Int):Lit:=.string (keyBytes [.int .i64 a,.int .i64 b])
theorem Anc {a b:Int} (wa:(Lit.int .i64 a).wf=true) (wb:(Lit.int .i64 b).wf=true):keyOf Tryz.prog 190 (.agg #[.int .i64 a,.int .i64 b])=some (KL a b):=keyOf_pair AyF Tryz.underlying3 ⟨Tryz.prog.types.size-1,by kernel_rfl⟩ wa wb
theorem Atp {a b c d:Int} (wa:(Lit.int .i64 a).wf=true) (wb:(Lit.int .i64 b).wf=true) (wc:(Lit.int .i64 c).wf=true) (wd:(Lit.int .i64 d).wf=true) (h:KL a b=KL c d):a=c/\b=d:=by
 have:=Akj.inj (Anc wa wb) (h▸Anc wc wd);simpa using this
theorem ApK (w:World):(zeroValue 3).run Tryz.prog w= .ok (.int .i64 0) w:=by kernel_rfl
noncomputable abbrev R3:Value->Option (DataW Unit×List MemPlace):=plainElem Tryz.prog 3
def VS (D:DataW Unit) (S:Int->Int->Prop):Prop:=(∀ a b,S a b->has D (KL a b)=true)/\∀ kl,has D kl=true->∃ a b,S a b/\kl=KL a b
theorem VS.put {D:DataW Unit} {S:Int->Int->Prop} (h:VS D S) (hm:IsMap D) (a b:Int) (d:DataW Unit):VS (D.put (KL a b) d) (λx y=>S x y\/x=a/\y=b):=by
 have hk:WideAt.IsKeyLit (KL a b):=trivial;constructor
 ·rintro x y (hs|⟨rfl,rfl⟩)
  ·by_cases e:KL x y=KL a b
   ·rw[e];exact has_put_same hm hk d
   ·rw[has_put_other e];exact h.1 x y hs
  ·exact has_put_same hm hk d
 ·intro kl hkl
  by_cases e:kl=KL a b
  ·exact⟨a,b,.inr ⟨rfl,rfl⟩,e⟩
  ·rw[has_put_other e]at hkl;obtain⟨x,y,hs,rfl⟩:=h.2 kl hkl;exact⟨x,y,.inl hs,rfl⟩
theorem AsL {P:Program} {w:World} {t k e:TypeId} {R:Value->Option (DataW Unit×List MemPlace)} {b:Nat} {es:Array MapEntry} {clock:Nat} (K:KeyLaw P k) (ht:P.underlying t=some (.map k e)) {z:Value} (hz:∀ u:World,(zeroValue e).run P u= .ok z u) (hb:w.heap[b]? =some (.map es clock)) (F:Fit P k R es clock)
  {key:Value} {kl:Lit} (hkey:keyOf P k key=some kl) {v0:Value} {st:Nat} {w1:World} (h:(aA t (.map (some b)) key).run P w= .ok (.tuple #[v0,goInt st]) w1) :
  (aAB t (.map (some b)) key v0).run P w= .ok () w1/\(v0=z\/∃ e0∈es.toList,v0=e0.val):=by
 rcases K.find w hkey es.toList F.keys with⟨h1,h2⟩|⟨j,e0,h1,h2,h3⟩
 ·simp[aA,run_underlying ht,MapKept.run_getObj_map hb,K.check w false hkey,h1,hz,MapKept.run_setObj_map _ hb,Result.andThen]at h;obtain⟨⟨rfl,_⟩,rfl⟩:=h;refine⟨?_,.inl rfl⟩;simp[aAB,run_underlying ht,MapKept.run_getObj_map hb,K.check w false hkey,h1,MapKept.run_setObj_map _ hb,Result.andThen]
 ·have hj:es[j]? =some e0:=by simpa using h2
  have hsame:es.modify j (λe=>{ e with key:=key })=es:=by
   apply Array.ext';rw[Array.toList_modify,ChangeMaps.modify_eq_set _ _ _ _ h2];have:({ e0 with key:=key }:MapEntry)=e0:=by rw[<- h3]
   rw[this];exact WideElems.set_self _ _ _ h2
  have hsame2:es.modify j (λe'=>{ e' with key:=key,val:=e0.val })=es:=by
   apply Array.ext';rw[Array.toList_modify,ChangeMaps.modify_eq_set _ _ _ _ h2];have:({ e0 with key:=key,val:=e0.val }:MapEntry)=e0:=by rw[<- h3]
   rw[this];exact WideElems.set_self _ _ _ h2
  simp[aA,run_underlying ht,MapKept.run_getObj_map hb,K.check w false hkey,h1,hj,h3,K.stays w hkey,hsame,MapKept.run_setObj_map _ hb,Result.andThen]at h;obtain⟨⟨rfl,_⟩,rfl⟩:=h;refine⟨?_,.inr ⟨e0,List.mem_of_getElem? h2,rfl⟩⟩;simp[aAB,run_underlying ht,MapKept.run_getObj_map hb,K.check w false hkey,h1,hj,h3,K.stays w hkey,hsame2,MapKept.run_setObj_map _ hb,Result.andThen]
set_option maxRecDepth 100000 in
theorem AtS {w:World} {b n:Nat} {D:DataW Unit} (h:w.ownsMap Tryz.prog 190 R3 b n D) {key:Value} {kl:Lit} (hkey:keyOf Tryz.prog 190 key=some kl) (hn:n<maxLen) :
  ∃ (v0:Value) (st:Nat) (w1:World) (c:Int),(aA 188 (.map (some b)) key).run Tryz.prog w= .ok (.tuple #[v0,goInt st]) w1/\(Instr.lookup 188 (.map (some b)) key false).run Tryz.prog w1= .ok (.int .i64 c) w1/\∀ m:Int,(Lit.int .i64 m).wf=true ->
   ∃ w3,(Instr.entryStore 188 (.map (some b)) (.int .i64 (st:Int)) (.int .i64 m)).run Tryz.prog w1= .ok () w3/\w3.ownsMap Tryz.prog 190 R3 b (n+1) (D.put kl (.lit (.int .i64 m)))/\w.mapTurned w3 b:=by
 obtain⟨es,clock,hb,F,hs,hD⟩:=id h;obtain⟨v0,st,es1,clock1,h1,_,h2⟩:=entry_then_store (R:=R3) AvQ Tryz.underlying188 (λu=>ApK u) hb F hkey
 obtain⟨h5,h6⟩:=AsL AvQ Tryz.underlying188 (λu=>ApK u) hb F hkey h1
 have hv:∃ c0,v0= .int .i64 c0/\(Lit.int .i64 c0).wf=true:=by
  rcases h6 with rfl|⟨e0,he,rfl⟩
  ·exact⟨0,rfl,by simp[Lit.wf,IntKind.min,IntKind.max,IntKind.signed,IntKind.bits]⟩
  ·obtain⟨y,hy⟩:=F.reads e0 he;obtain⟨y,hy,_⟩:=WideElems.rd_val hy;obtain⟨c0,e1,_,e3⟩:=plainElem_int_inv Tryz.underlying3 hy;exact⟨c0,e1,e3⟩
 obtain⟨c0,rfl,hc0⟩:=hv;obtain⟨w1',k1,k2,_⟩:=h.store Akj Tryz.underlying188 hn hkey (plainElem_int Tryz.underlying3 hc0);rw[h5]at k1;simp only[Result.ok.injEq,true_and]at k1;subst k1;obtain⟨c,hc,_,_⟩:=k2.lookup_int Akj Tryz.underlying188 Tryz.underlying3 (ApK _) hkey;refine⟨_,st,_,c,h1,hc,λm hm=>?_⟩
 obtain⟨es',clock',h3,h4⟩:=h2 (ChangeMaps.setBlock w b (.map es1 clock1)) (.int .i64 m) (ChangeMaps.heap_setBlock_same hb _);obtain⟨w',k1,k2,k3⟩:=h.store Akj Tryz.underlying188 hn hkey (plainElem_int Tryz.underlying3 hm);rw[h4]at k1;simp only[Result.ok.injEq,true_and]at k1;subst k1;have e:ChangeMaps.setBlock (ChangeMaps.setBlock w b (.map es1 clock1)) b (.map es' clock')=ChangeMaps.setBlock w b (.map es' clock'):=by
  simp[ChangeMaps.setBlock]
 rw[e]at h3;exact⟨_,h3,k2,k3⟩
def RT (p:List (List (Int×Int))) (k j:Nat) (a b:Int):Prop:=∃ (i m:Nat) (l:List (Int×Int)),p[i]? =some l/\l[m]? =some (22,b)/\a=i/\(i<k\/(i=k/\m<j))
theorem VS.congr {D:DataW Unit} {S T:Int->Int->Prop} (h:VS D S) (e:∀ x y,S x y↔T x y):VS D T:=⟨λa b hs=>h.1 a b ((e a b).2 hs),λkl hk=>by
 obtain⟨a,b,hs,hh⟩:=h.2 kl hk
 exact⟨a,b,(e a b).1 hs,hh⟩⟩
section
variable {p:List (List (Int×Int))} {k m:Nat} {l:List (Int×Int)} {q:Int×Int} {x y:Int}
theorem AuH (hp:p[k]? =some l) (hq:l[m]? =some q) (e:q.1=22):(RT p k m x y\/x=k/\y=q.2)↔RT p k (m+1) x y:=by
 obtain⟨q1,q2⟩:=q;simp only at e;subst e;constructor
 ·rintro(⟨i,n,l',h1,h2,h3,h4⟩|⟨rfl,rfl⟩)
  ·exact⟨i,n,l',h1,h2,h3,by omega⟩
  ·exact⟨k,m,l,hp,hq,rfl,.inr ⟨rfl,by omega⟩⟩
 ·rintro⟨i,n,l',h1,h2,h3,h4⟩
  by_cases e:i=k/\n=m
  ·obtain⟨rfl,rfl⟩:=e;rw[hp]at h1;cases h1;rw[hq]at h2;cases h2;exact .inr ⟨h3,rfl⟩
  ·exact .inl ⟨i,n,l',h1,h2,h3,by omega⟩
theorem AuI (hp:p[k]? =some l) (hq:l[m]? =some q) (e:q.1≠22):RT p k m x y↔RT p k (m+1) x y:=by
 constructor
 ·rintro⟨i,n,l',h1,h2,h3,h4⟩;exact⟨i,n,l',h1,h2,h3,by omega⟩
 ·rintro⟨i,n,l',h1,h2,h3,h4⟩
  by_cases e':i=k/\n=m
  ·obtain⟨rfl,rfl⟩:=e';rw[hp]at h1;cases h1;rw[hq]at h2;cases h2;exact absurd rfl e
  ·exact⟨i,n,l',h1,h2,h3,by omega⟩
theorem Aws (hp:p[k]? =some l) (hm:m=l.length):RT p k m x y↔RT p (k+1) 0 x y:=by
 constructor
 ·rintro⟨i,n,l',h1,h2,h3,h4⟩;exact⟨i,n,l',h1,h2,h3,by omega⟩
 ·rintro⟨i,n,l',h1,h2,h3,h4⟩
  by_cases e':i=k
  ·subst e';rw[hp]at h1;cases h1;have:=(List.getElem?_eq_some_iff.1 h2).1;exact⟨i,n,l,hp,h2,h3,.inr ⟨rfl,by omega⟩⟩
  ·exact⟨i,n,l',h1,h2,h3,by omega⟩
end
set_option maxRecDepth 100000 in
theorem AsD (b0 o0 len cap:Nat) (p:List (List (Int×Int))) (w:World) (hlen:p.length=len) (hl:len<=100) (hcl:∀ l∈p,l.length<=2000) (hb0:b0<w.heap.size) 
  (hc:∀ (k:Nat) l,p[k]? =some l->∃ px ya yl yc bc oc cc,w.cell? ⟨b0,o0+k*3,none⟩=some (.int .i64 px)/\w.cell? ⟨b0,o0+k*3+1,none⟩=some (.slice ya yl yc)/\w.cell? ⟨b0,o0+k*3+2,none⟩=some (.slice (some ⟨bc,oc,none⟩) l.length cc)/\bc<w.heap.size /\
   ∀ (m:Nat) q,l[m]? =some q->(q.1=22->(Lit.int .i64 q.2).wf=true)/\∃ c d e,w.cell? ⟨bc,oc+m*5,none⟩=some (.int .i64 q.1)/\w.cell? ⟨bc,oc+m*5+1,none⟩=some (.int .i64 q.2)/\w.cell? ⟨bc,oc+m*5+2,none⟩=some (.int .i64 c)/\w.cell? ⟨bc,oc+m*5+3,none⟩=some (.int .i64 d)/\w.cell? ⟨bc,oc+m*5+4,none⟩=some (.int .u64 e)) :
  Calls Tryz.prog 170 #[.agg #[.slice (some ⟨b0,o0,none⟩) len cap]] w λe w'=>∃ M n D,e= .returned (.map (some M))/\w.heap.size<=M/\w'.ownsMap Tryz.prog 190 R3 M n D/\VS D (RT p len 0)/\Below w.heap.size w w':=by
 have hmm:=@run_makeMap Tryz.prog
 go_enter Tryz.func170,Tryz.ntmps170
 go_wp2
 go_loopw [12] (λi wr=>∃ k:Nat,k<=len/\i= .int .i64 k/\∃ D,wr.ownsMap Tryz.prog 190 R3 (w.heap.size+1) (2000*k) D/\VS D (RT p k 0)/\Below w.heap.size w wr)
  (λi _=>len-(intOf i).toNat)
 case atStart =>
  refine⟨0,Nat.zero_le _,rfl,.map [],?_,?_,?_⟩
  ·have:=World.ownsMap_made (w.alloc (Obj.cells #[Value.slice (some { block:=b0,off:=o0 }) len cap] 28)) Tryz.prog 190 R3;simpa using this
  ·exact⟨λa b hs=>by obtain⟨i,n,l',h1,h2,h3,h4⟩:=hs;omega,λkl hk=>by simp[has]at hk⟩
  ·exact((Below.refl _ _).alloc (Nat.le_refl _) _).alloc (by simp) _
 case round =>
  obtain⟨k,hk,rfl,D,hown,hS,hnx⟩:=hrel
  by_cases hlt:k<len
  ·obtain⟨l,hpl⟩:∃ l,p[k]? =some l:=⟨p[k]'(by omega),aAA _⟩
   obtain⟨px,ya,yl,yc,bc,oc,cc,h1,h2,h3,hbc,hq⟩:=hc k l hpl;have g1:=(hnx.cell (p:=⟨b0,o0+k*3,none⟩) hb0).trans h1;have g2:=(hnx.cell (p:=⟨b0,o0+k*3+1,none⟩) hb0).trans h2;have g3:=(hnx.cell (p:=⟨b0,o0+k*3+2,none⟩) hb0).trans h3
   go_wp2
   go_loopw [20] (λj w2=>∃ m:Nat,m<=l.length/\j= .int .i64 m/\∃ D,w2.ownsMap Tryz.prog 190 R3 (w.heap.size+1) (2000*k+m) D/\VS D (RT p k m)/\Below w.heap.size w w2)
    (λj _=>l.length-(intOf j).toNat)
   case atStart=>exact⟨0,Nat.zero_le _,rfl,D,hown.alloc _,hS,hnx.alloc hnx.size _⟩
   case round =>
    clear D hown hS;rename_i w2 _;obtain⟨m,hm,rfl,D,hown,hS,hny⟩:=hrel;have hl2:=hcl l (List.mem_of_getElem? hpl)
    by_cases hmt:m<l.length
    ·obtain⟨q,hqm⟩:∃ q,l[m]? =some q:=⟨l[m],aAA _⟩;obtain⟨wq,c,d,e,e1,e2,e3,e4,e5⟩:=hq m q hqm;have f1:=(hny.cell (p:=⟨bc,oc+m*5,none⟩) hbc).trans e1;have f2:=(hny.cell (p:=⟨bc,oc+m*5+1,none⟩) hbc).trans e2;have f3:=(hny.cell (p:=⟨bc,oc+m*5+2,none⟩) hbc).trans e3;have f4:=(hny.cell (p:=⟨bc,oc+m*5+3,none⟩) hbc).trans e4;have f5:=(hny.cell (p:=⟨bc,oc+m*5+4,none⟩) hbc).trans e5
     by_cases e0:q.1=22
     ·have wq:=wq e0;have hid0:=Lib.hid e0;clear e0;have hown1:=(hown.alloc (.cells #[.int .i64 q.1,.int .i64 q.2,.int .i64 c,.int .i64 d,.int .u64 e] 90)).drew;have wk:(Lit.int .i64 (k:Int)).wf=true:=by simp[Lit.wf,IntKind.min,IntKind.max,IntKind.signed,IntKind.bits];omega
      have hkey:=Anc wk wq;obtain⟨c0,hrun,_,_⟩:=hown1.lookup_int Akj Tryz.underlying188 Tryz.underlying3 (ApK _) hkey;obtain⟨v0,st,w1,c1,hme,hl1,hes⟩:=AtS hown1 hkey (by unfold maxLen;omega)
      obtain⟨w3,hes0,hown3,htu⟩:=hes (wrap64 (c0+1)) (wrap64_wf _);obtain⟨w4,hes1,hown4,htu4⟩:=hes (wrap64 (c1+1)) (wrap64_wf _);clear hes
      go_wp2
      ·have e22:q.1=22:=by simpa using(by assumption:(q.1==22)=true)
       have hS':∀ D' d,D'=D.put (KL k q.2) d->VS D' (RT p k (m+1)):=λD' d hD=>by
        subst hD;refine(hS.put hown.isMap k q.2 d).congr λx y=>?_
        exact AuH hpl hqm e22
       clear e22
       go_region
       ·have R1:=hown3.mono (show 2000*k+m+1<=2000*k+(m+1)by omega)
        have R2:=(hny.alloc hny.size (.cells #[.int .i64 q.1,.int .i64 q.2,.int .i64 c,.int .i64 d,.int .u64 e] 90)).drew.grown htu.grown (by have:=hny.size;simp;omega) (λj hj=>by cases hj;omega)
        go_wp2
        go_roundw
        case rel=>exact⟨m+1,by omega,by go_num,_,R1,hS' _ _ rfl,R2⟩
        case measure=>simp[intOf];omega
       ·have R1:=hown4.mono (show 2000*k+m+1<=2000*k+(m+1)by omega)
        have R2:=(hny.alloc hny.size (.cells #[.int .i64 q.1,.int .i64 q.2,.int .i64 c,.int .i64 d,.int .u64 e] 90)).drew.grown htu4.grown (by have:=hny.size;simp;omega) (λj hj=>by cases hj;omega)
        go_wp2
        go_roundw
        case rel=>exact⟨m+1,by omega,by go_num,_,R1,hS' _ _ rfl,R2⟩
        case measure=>simp[intOf];omega
      ·exact absurd ‹(q.1==22)=false› (by rw[hid0.out];decide)
     ·have hid0:=Lib.hid e0;clear e0
      go_wp2
      ·exact absurd (by simpa using ‹(q.1==22)=true›) hid0.out
      ·have e22:q.1≠22:=by simpa using(by assumption:(q.1==22)=false)
       have hS':VS D (RT p k (m+1)):=hS.congr λx y=>AuI hpl hqm e22
       have R1:=(hown.alloc (.cells #[.int .i64 q.1,.int .i64 q.2,.int .i64 c,.int .i64 d,.int .u64 e] 90)).mono (show 2000*k+m<=2000*k+(m+1)by omega)
       have R2:=(hny.alloc hny.size (.cells #[.int .i64 q.1,.int .i64 q.2,.int .i64 c,.int .i64 d,.int .u64 e] 90))
       go_wp2
       go_roundw
       case rel=>exact⟨m+1,by omega,by go_num,_,R1,hS',R2⟩
       case measure=>simp[intOf];omega
    ·have hml:m=l.length:=by omega
     have R1:=hown.mono (show 2000*k+m<=2000*(k+1)by omega)
     have hS':VS D (RT p (k+1) 0):=hS.congr λx y=>Aws hpl hml
     go_wp2
     go_roundw
     case rel=>exact⟨k+1,by omega,by go_num,_,R1,hS',hny⟩
     case measure=>simp[intOf];omega
  ·have hkl:k=len:=by omega
   subst hkl
   go_wp2
   go_ret
   exact⟨_,_,D,rfl,by omega,hown,hS,hnx⟩
end Go.Proofs.YtcaoepecbgggcaaGreatDoor
