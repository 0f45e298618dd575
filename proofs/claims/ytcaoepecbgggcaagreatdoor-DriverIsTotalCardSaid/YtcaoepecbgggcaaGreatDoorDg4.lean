/-
  certificate.Broken by hand: the walk.
-/
import Derived.Test.YtcaoepecbgggcaaGreatDoorDg3
import Derived.Deep.AppendLies
open Array renaming getElem?_eq_some_iff->aAD,replicate_succ->aAI,replicate_zero->aAJ
open List renaming mem_cons->aAL
open Nat renaming le_refl->aAC
open Go.World renaming grownBy_alloc->aA,size_alloc->aAA,cell?_alloc_new->aAB,cell?_setCell_other->aAE,cell?_setCell_same->aAF,putObj_heap_other->aAG,frozen?_alloc_new->aAH,cell?_of_block->aAK
namespace Go.Proofs.YtcaoepecbgggcaaGreatDoor
open Go Go.Proofs Go.RowKit Go.Shelf
set_option maxHeartbeats 40000000
attribute [local go_sem] Oper.semAt_some
theorem Tryz.AyH:Tryz.prog.follows .mixedOrders=true:=by kernel_rfl
theorem gtr {a b c:World} (h:a.grownBy b none) (k:b.grownBy c none):a.grownBy c none :=
 ⟨k.os.trans h.os,k.tape.trans h.tape,k.output.trans h.output,Nat.le_trans h.size k.size,λi hi _=>(k.block i (Nat.lt_of_lt_of_le hi h.size) (by simp)).trans (h.block i hi (by simp))⟩
section
variable {F:Fence} {n:Nat} {P:Program} {md:Region.Mode} {ops:Array Oper} {Q:Exit->Act->World->Prop}
theorem Atk (r:Nat) {o:Oper} {a:Act} {next:Act->World->Prop} {x:Result Next} (h:o.uponIn F n P a next Q x):o.uponIn (F.inRound r) n P a next Q x:=by
 cases x with
 | ok y w'=>cases y<;>exact h
 | halt y w'=>cases y<;>exact h
theorem AfR (r:Nat) (hro:F.round=none) (hnd:∀ o∈ops.toList,∀ c,o.op≠ .defer c):∀ (fuel:Nat) (listed:Array Bool) (a:Act) (w:World),wpAnyIn F n P md ops Q fuel listed a w->wpAnyIn (F.inRound r) n P md ops Q fuel listed a w
 | 0,_,_,_,h=>h
 | fuel+1,listed,a,w,h=>⟨h.1,λi hi=>by
  have h2:=h.2 i hi;unfold wpOpIn at h2 ⊢;cases ho:ops[i]? with
  | none =>
   simp only[ho]at h2 ⊢;exact AfR r hro hnd fuel _ _ _ h2
  | some o =>
   simp only[ho]at h2 ⊢
   by_cases hw:Region.wanted o (yielded ops a.tmps)=true
   ·rw[if_pos hw]at h2 ⊢;have h3:=Oper.wpIn_mono (λa w=>AfR r hro hnd fuel _ a w) h2
    unfold Oper.wpIn at h3 ⊢;refine⟨h3.1,?_⟩;have hm:o∈ops.toList:=by
     obtain⟨hl,rfl⟩:=aAD.1 ho;simp
    rw[Fence.inRound_round,Oper.semAt_some r _ _ (hnd o hm)];rw[hro,Oper.semAt_none]at h3;exact Atk r h3.2
   ·rw[if_neg hw]at h2 ⊢
    exact⟨h2.1,AfR r hro hnd fuel _ _ _ h2.2⟩⟩
theorem ArA (r:Nat) {id:Nat} {a:Act} {w:World} {l:List Oper} (hro:F.round=none) (hm:P.follows .mixedOrders=true) (hB:Region.lexB .any l.toArray=true) (hnd:∀ o∈l,∀ c,o.op≠ .defer c)
  (h:wpQuietIn F n P l.toArray (λw'=>∃ n,w'=w.drewN n) (λa'=>∀ w',(∃ n,w'=w.drewN n)->Q .normal a' w') l a):(Code.region id l.toArray true).wpIn (F.inRound r) n P Q a w:=by
 simp only[Region.lexB,Bool.and_eq_true]at hB;have hq:=wpAnyQIn_lex (F:=F) (n:=n) (C:=λw'=>∃ n,w'=w.drewN n) (md:=.any) hB.1 l 0 (Array.replicate l.toArray.size false) a (by simp) (by simpa using hB.2) h
 refine wpIn_region_any hm (AfR r hro (by simpa using hnd) _ _ _ _ (wpAnyIn_of_quiet (Q:=λa'=>∀ w',(∃ n,w'=w.drewN n)->Q .normal a' w') hro (λ_ w' hw' h=>h w' hw') _ _ _ _ ⟨1,rfl⟩ ?_))
 simpa using hq
end
def Marks (ds:List Nat) (W:World):Prop:=ds.Nodup/\∀ D∈ds,W.heap[D]? =some (.deferred (some []))
def mkD (D:Nat):Deferred:={ target:=.collected D,args:=#[] }
theorem Akl {F:Fence} {n:Nat} {fn:Func} {tmps:Array Value} {R:Ending->World->Prop}:∀ (ds:List Nat) (W:World),Marks ds W ->
  (∀ W':World,W'.heap.size=W.heap.size->W'.os=W.os->W'.tape=W.tape->W'.output=W.output->(∀ b,b∉ds->W'.heap[b]? =W.heap[b]?)->∃ v,(results fn tmps).run Tryz.prog W'= .ok v W'/\R (.returned v) W') ->
  LeavesInM F n Tryz.prog fn tmps R (ds.map mkD) .returning W
 | [],W,_,h=>h W rfl rfl rfl rfl (λ_ _=>rfl)
 | D::ds,W,⟨hn,hd⟩,h=>by
  obtain⟨h1,h2⟩:=List.nodup_cons.1 hn;have hD:=hd D (by simp)
  refine⟨by simp,.inl ⟨D,_,rfl,run_takeDeferred hD,?_⟩⟩
  refine Akl ds _ ⟨h2,λE hE=>?_⟩ λW' e1 e2 e3 e4 e5=>h W' (e1.trans (by simp[World.putObj])) (e2.trans rfl) (e3.trans rfl) (e4.trans rfl) λb hb=>?_
  ·rw[aAG (λe=>h1 (by rw[<- e];exact hE))]
   exact hd E (by simp[hE])
  ·simp only[aAL,not_or]at hb;rw[e5 b hb.2];exact aAG hb.1
theorem AvZ (F:Fence) (n:Nat) (hF:F.fn 242) (hro:F.round=none) (ga ca:Option Addr) (gn gc cn cc:Nat) (i:Int) (w:World) :
  CallsIn F n Tryz.prog 242 #[.slice ga gn gc,.slice ca cn cc,.int .i64 i] w λe w'=>e= .returned (.func (.func 268) #[] #[.pointer (some ⟨w.heap.size,0,none⟩),.pointer (some ⟨w.heap.size+2,0,none⟩),.pointer (some ⟨w.heap.size+1,0,none⟩)])/\w'=((w.alloc (.cells #[.slice ga gn gc] 43)).alloc (.cells #[.slice ca cn cc] 37)).alloc (.cells #[.int .i64 i] 3):=by
 refine callsIn_of_wp Tryz.func242 rfl hF ?_ hro;simp only[Tryz.ntmps242,List.size_toArray,List.length_cons,List.length_nil,Nat.reduceAdd,Nat.reduceSub,aAI,aAJ,List.push_toArray,List.append_toArray,List.nil_append,List.cons_append]
 gi_wp2
 go_ret
 exact⟨rfl,rfl⟩
theorem Arx (F:Fence) (n:Nat) (hF:F.fn 268) (hro:F.round=none) (hn:1<=n) (bG bI bC n₀ bg og gn gc i:Nat) (cv v:Value) (row:List Nat) (at_:Nat->Int) (B:Int) (h0B:0<=B) (hB:∀ x∈row,at_ x<=B) (hi:i<gn) (hbg:bg<n₀) (hrl:row.length<=100000)
  (w:World) (hn₀:n₀<=w.heap.size) (hbG:bG<n₀) (hbI:bI<n₀) (hbC:bC<n₀) (hG:w.cell? ⟨bG,0,none⟩=some (.slice (some ⟨bg,og,none⟩) gn gc)) (hI:w.cell? ⟨bI,0,none⟩=some (.int .i64 (i:Int))) (hC:w.cell? ⟨bC,0,none⟩=some cv)
  (hrow0:w.cell? ⟨bg,og+i,none⟩=some v) (hv:Aic n₀ w v cv row at_) :
  SeqStopsK F n Tryz.prog 268 #[.pointer (some ⟨bG,0,none⟩),.pointer (some ⟨bI,0,none⟩),.pointer (some ⟨bC,0,none⟩)] (λx:{x:Int // x<=B}=>#[Value.int .i64 x.1]) (Below n₀) (λ_=>True) (λ_=>True) (row.length+1) w:=λl J Jx W hW _ _ hY h0 =>
 have hb:=hW.mono hn₀
 Aun F n hF hro hn l bG bI bC n₀ bg og gn gc i cv v row at_ B h0B hB hi hbg hrl J Jx hY W hbG hbI hbC ((hb.cell (p:=⟨bG,0,none⟩) hbG).trans hG) ((hb.cell (p:=⟨bI,0,none⟩) hbI).trans hI) ((hb.cell (p:=⟨bC,0,none⟩) hbC).trans hC) ((hb.cell (p:=⟨bg,og+i,none⟩) hbg).trans hrow0) (hv.below hb) h0
theorem Aic.more {n₀ n₁:Nat} {W:World} {v cv:Value} {row:List Nat} {at_:Nat->Int} (h:Aic n₀ W v cv row at_) (hn:n₀<=n₁):Aic n₁ W v cv row at_:=by
 rcases h with h|⟨br,or_,cr,bc,oc,cn,cc,h1,h2,h3,h4,h5⟩
 ·exact .inl h
 ·exact .inr ⟨br,or_,cr,bc,oc,cn,cc,h1,h2,by omega,by omega,h5⟩
structure BxB (w:World) (bw ow gn wc bc oc cc:Nat) (ds:List Nat) (W:World):Prop where
 marks:Marks ds W
 sz:w.heap.size+4<=W.heap.size
 far:∀ D∈ds,w.heap.size+3<D
 bel:Below w.heap.size w W
 b4:W.cell? ⟨w.heap.size,0,none⟩=some (.slice (some ⟨bw,ow,none⟩) gn wc)
 b5:W.cell? ⟨w.heap.size+1,0,none⟩=some (.slice (some ⟨bc,oc,none⟩) gn cc)
 b6:W.cell? ⟨w.heap.size+1+1,0,none⟩=some (.int .i64 0)
 f6:W.frozen? ⟨w.heap.size+1+1,0,none⟩=false
 b7:W.cell? ⟨w.heap.size+1+1+1,0,none⟩=some (.bool false)
 f7:W.frozen? ⟨w.heap.size+1+1+1,0,none⟩=false
set_option maxRecDepth 100000 in
theorem Atz (F:Fence) (n:Nat) (h179:F.fn 179) (h178:F.fn 178) (h241:F.fn 241) (h242:F.fn 242) (h268:F.fn 268) (hro:F.round=none) (hn:6<=n) (bg og gn gc bw ow wc bc oc cc:Nat) (w:World) (hg80:gn<=1000)
  (hm:∀ W,Below w.heap.size w W->CallsIn F (n-1) Tryz.prog 178 #[.slice (some ⟨bg,og,none⟩) gn gc,.slice (some ⟨bw,ow,none⟩) gn wc,.slice (some ⟨bc,oc,none⟩) gn cc] W λe W'=>e= .returned (.bool true)/\W.grownBy W' none)
  (hb:∀ W x,Below w.heap.size w W->0<=x/\x<=2147483647->CallsIn F (n-1) Tryz.prog 241 #[.int .i64 x] W λe W'=>e= .returned (.bool true)/\W.grownBy W' none)
  (hbg:bg<w.heap.size) (hbw:bw<w.heap.size) (hbc:bc<w.heap.size)
  (hat:∀ i:Nat,i<gn->∃ (a b:Int) (v:Value) (row:List Nat) (at_:Nat->Int),w.cell? ⟨bc,oc+i,none⟩=some (.int .i64 a)/\w.cell? ⟨bw,ow+i,none⟩=some (.int .i64 b)/\(0<=b/\b<=a/\a<=2147483647)/\w.cell? ⟨bg,og+i,none⟩=some v/\Aic w.heap.size w v (.slice (some ⟨bc,oc,none⟩) gn cc) row at_/\row.length<=100000/\∀ x∈row,at_ x<=a-b) :
  CallsIn F n Tryz.prog 179 #[.slice (some ⟨bg,og,none⟩) gn gc,.slice (some ⟨bw,ow,none⟩) gn wc,.slice (some ⟨bc,oc,none⟩) gn cc] w λe W'=>e= .returned (.tuple #[.int .i64 0,.bool false])/\Below w.heap.size w W':=by
 have hn1:1<=n:=by omega
 refine callsIn_of_wp_marks Tryz.func179 rfl h179 ?_ hro;simp only[Tryz.ntmps179,List.size_toArray,List.length_cons,List.length_nil,Nat.reduceAdd,Nat.reduceSub,aAI,aAJ,List.push_toArray,List.append_toArray,List.nil_append,List.cons_append];have hB4:Below w.heap.size w ((((w.alloc (.cells #[.slice (some ⟨bw,ow,none⟩) gn wc] 37)).alloc (.cells #[.slice (some ⟨bc,oc,none⟩) gn cc] 37)).alloc (.cells #[.int .i64 0] 3)).alloc (.cells #[.bool false] 4)):=((((Below.refl _ _).alloc (aAC _) _).alloc (by simp) _).alloc (by simp;omega) _).alloc (by simp;omega) _
 gi_wp2_with (gi_at_call 178;refine(hm _ hB4).mono ?_;rintro e w1 ⟨rfl,hg1⟩)
 refine wpIn_loop (λa w'=>∃ (k:Nat) (u:Nat->Value) (ds:List Nat),k<=gn/\a={ tmps:=#[.slice (some ⟨bg,og,none⟩) gn gc,.slice (some ⟨bw,ow,none⟩) gn wc,.slice (some ⟨bc,oc,none⟩) gn cc,undef,.pointer (some ⟨w.heap.size,0,none⟩),.pointer (some ⟨w.heap.size+1,0,none⟩),.pointer (some ⟨w.heap.size+1+1,0,none⟩),.pointer (some ⟨w.heap.size+1+1+1,0,none⟩),u 8,u 9,.slice (some ⟨bg,og,none⟩) gn gc,.slice (some ⟨bw,ow,none⟩) gn wc,.slice (some ⟨bc,oc,none⟩) gn cc,.bool true,.bool false,.slice (some ⟨bg,og,none⟩) gn gc,.int .i64 gn,.int .i64 k,u 18,u 19,u 20,u 21,u 22,u 23,u 24,u 25,u 26,u 27,u 28,u 29,u 30,u 31,u 32,u 33,u 34,u 35,u 36,u 37,u 38,u 39,u 40,u 41,u 42,u 43,u 44],defers:=ds.map mkD }/\BxB w bw ow gn wc bc oc cc ds w') (λa _=>gn-(intOf (a.tmps.getD 17 undef)).toNat) ?_ ?_
 ·refine⟨0,λ_=>undef,[],Nat.zero_le _,rfl,?_⟩
  have c1:=aAB (w:=w) #[.slice (some ⟨bw,ow,none⟩) gn wc] 37 0;have c2:=aAB (w:=w.alloc (.cells #[.slice (some ⟨bw,ow,none⟩) gn wc] 37)) #[.slice (some ⟨bc,oc,none⟩) gn cc] 37 0;have c3:=aAB (w:=(w.alloc (.cells #[.slice (some ⟨bw,ow,none⟩) gn wc] 37)).alloc (.cells #[.slice (some ⟨bc,oc,none⟩) gn cc] 37)) #[.int .i64 0] 3 0;have c4:=aAB (w:=((w.alloc (.cells #[.slice (some ⟨bw,ow,none⟩) gn wc] 37)).alloc (.cells #[.slice (some ⟨bc,oc,none⟩) gn cc] 37)).alloc (.cells #[.int .i64 0] 3)) #[.bool false] 4 0;have f3:=aAH (w:=(w.alloc (.cells #[.slice (some ⟨bw,ow,none⟩) gn wc] 37)).alloc (.cells #[.slice (some ⟨bc,oc,none⟩) gn cc] 37)) #[.int .i64 0] 3 0;have f4:=aAH (w:=((w.alloc (.cells #[.slice (some ⟨bw,ow,none⟩) gn wc] 37)).alloc (.cells #[.slice (some ⟨bc,oc,none⟩) gn cc] 37)).alloc (.cells #[.int .i64 0] 3)) #[.bool false] 4 0;have ga:=λ(W:World) (o:Obj)=>aA W o none
  rw[aAA]at c2;rw[aAA,aAA]at c3 f3;rw[aAA,aAA,aAA]at c4 f4;have hsz:=hg1.size;simp only[aAA]at hsz
  exact⟨⟨List.nodup_nil,λD hD=>(by cases hD)⟩,by omega,λD hD=>(by cases hD),hB4.grown hg1 hB4.size (λj hj=>by cases hj),
   (gtr (gtr (gtr (ga _ _) (ga _ _)) (ga _ _)) hg1).cell c1 (by simp),(gtr (gtr (ga _ _) (ga _ _)) hg1).cell c2 (by simp),(gtr (ga _ _) hg1).cell c3 (by simp),((gtr (ga _ _) hg1).frozen_far _ (by simp) (by simp)).trans f3,hg1.cell c4 (by simp),(hg1.frozen_far _ (by simp) (by simp)).trans f4⟩
 ·rintro a0 wr ⟨k,u,ds,hk,rfl,hx⟩;obtain⟨x1,x0,x2,x3,x4,x5,x6,x7,x8,x9⟩:=id hx
  by_cases hlt:k<gn
  ·obtain⟨a,b,v,row,at_,q1,q2,q3,q4,q5,q6,q7⟩:=hat k hlt;have r1:=(x3.cell (p:=⟨bc,oc+k,none⟩) hbc).trans q1;have y5:∀ o:Obj,(wr.alloc o).cell? ⟨w.heap.size+1,0,none⟩=some (.slice (some ⟨bc,oc,none⟩) gn cc):=λo=>(aA wr o none).cell x5 (by simp)
   have r1':∀ o:Obj,(wr.alloc o).cell? ⟨bc,oc+k,none⟩=some (.int .i64 a):=λo=>(aA wr o none).cell r1 (by simp)
   have y8:(wr.alloc (.cells #[.int .i64 (k:Int)] 3)).cell? ⟨wr.heap.size,0,none⟩=some (.int .i64 (k:Int)):=by simp
   have hB1:=x3.alloc x3.size (.cells #[.int .i64 (k:Int)] 3)
   gi_wp2_with (first|(gi_at_call 241;refine(hb _ a hB1 (by omega)).mono ?_;rintro e w2 ⟨rfl,hg2⟩;have z5:=hg2.cell (y5 (.cells #[.int .i64 (k:Int)] 3)) (by simp);have z8:=hg2.cell y8 (by simp))|(gi_at_call 242;refine(AvZ F (n-1) h242 hro _ _ gn gc gn cc _ _).mono ?_;rintro e w3 ⟨rfl,rfl⟩))
   ·have hB2:=hB1.grown hg2 hB1.size (λj hj=>by cases hj)
    have hgw:wr.grownBy (((w2.alloc (.cells #[.slice (some ⟨bg,og,none⟩) gn gc] 43)).alloc (.cells #[.slice (some ⟨bc,oc,none⟩) gn cc] 37)).alloc (.cells #[.int .i64 (k:Int)] 3)) none:=gtr (gtr (gtr (gtr (aA wr _ none) hg2) (aA _ _ none)) (aA _ _ none)) (aA _ _ none);have hc0:(((w2.alloc (.cells #[.slice (some ⟨bg,og,none⟩) gn gc] 43)).alloc (.cells #[.slice (some ⟨bc,oc,none⟩) gn cc] 37)).alloc (.cells #[.int .i64 (k:Int)] 3)).cell? ⟨w2.heap.size,0,none⟩=some (.slice (some ⟨bg,og,none⟩) gn gc):=(gtr (aA _ _ none) (aA _ _ none)).cell (aAB (w:=w2) #[.slice (some ⟨bg,og,none⟩) gn gc] 43 0) (by simp)
    have hc1:(((w2.alloc (.cells #[.slice (some ⟨bg,og,none⟩) gn gc] 43)).alloc (.cells #[.slice (some ⟨bc,oc,none⟩) gn cc] 37)).alloc (.cells #[.int .i64 (k:Int)] 3)).cell? ⟨w2.heap.size+1,0,none⟩=some (.slice (some ⟨bc,oc,none⟩) gn cc):=by
     have e:=aAB (w:=w2.alloc (.cells #[.slice (some ⟨bg,og,none⟩) gn gc] 43)) #[.slice (some ⟨bc,oc,none⟩) gn cc] 37 0;rw[aAA]at e;exact(aA _ _ none).cell e (by simp)
    have hc2:(((w2.alloc (.cells #[.slice (some ⟨bg,og,none⟩) gn gc] 43)).alloc (.cells #[.slice (some ⟨bc,oc,none⟩) gn cc] 37)).alloc (.cells #[.int .i64 (k:Int)] 3)).cell? ⟨w2.heap.size+2,0,none⟩=some (.int .i64 (k:Int)):=by
     have e:=aAB (w:=(w2.alloc (.cells #[.slice (some ⟨bg,og,none⟩) gn gc] 43)).alloc (.cells #[.slice (some ⟨bc,oc,none⟩) gn cc] 37)) #[.int .i64 (k:Int)] 3 0;rw[aAA,aAA]at e;exact e
    have hc8:(((w2.alloc (.cells #[.slice (some ⟨bg,og,none⟩) gn gc] 43)).alloc (.cells #[.slice (some ⟨bc,oc,none⟩) gn cc] 37)).alloc (.cells #[.int .i64 (k:Int)] 3)).cell? ⟨wr.heap.size,0,none⟩=some (.int .i64 (k:Int)):=(gtr (gtr (aA _ _ none) (aA _ _ none)) (aA _ _ none)).cell z8 (by simp)
    have hsz:(((w2.alloc (.cells #[.slice (some ⟨bg,og,none⟩) gn gc] 43)).alloc (.cells #[.slice (some ⟨bc,oc,none⟩) gn cc] 37)).alloc (.cells #[.int .i64 (k:Int)] 3)).heap.size=w2.heap.size+3:=by simp
    have hsw2:wr.heap.size<w2.heap.size:=by have:=hg2.size;simp at this;omega
    generalize(((w2.alloc (.cells #[.slice (some ⟨bg,og,none⟩) gn gc] 43)).alloc (.cells #[.slice (some ⟨bc,oc,none⟩) gn cc] 37)).alloc (.cells #[.int .i64 (k:Int)] 3))=W3 at *;have hB3:Below w.heap.size w W3:=x3.grown hgw x3.size (λj hj=>by cases hj)
    have hs3:=hB3.size;have hs4:=hgw.size;refine wpIn_rangeFunc_ownF hro hn1 (gf:=268) (lb:=#[.pointer (some ⟨w2.heap.size,0,none⟩),.pointer (some ⟨w2.heap.size+2,0,none⟩),.pointer (some ⟨w2.heap.size+1,0,none⟩)]) rfl h268 (enters_of Tryz.func268 (by kernel_rfl) rfl)
     (Arx F (n-1) h268 hro (by omega) w2.heap.size (w2.heap.size+2) (w2.heap.size+1) W3.heap.size bg og gn gc k (.slice (some ⟨bc,oc,none⟩) gn cc) v row at_ (a-b) (by omega) q7 hlt (by omega) q6 W3 (aAC _) (by omega) (by omega) (by omega) hc0 hc2 hc1 ((hB3.cell (p:=⟨bg,og+k,none⟩) hbg).trans q4) ((q5.below hB3).more hs3)) belowK_t (belowK_b (aAC _)) (Below.refl _ _) (λ_=>rfl)
     (λ_ W=>Below W3.heap.size W3 W) (λ_ _ _=>False) (ownFrom_below (aAC _) (aAC _)) (λ_ _ _ _ _ hs _ _=>hs) (Below.refl _ _)
     (λx=>{ tmps:=#[.slice (some ⟨bg,og,none⟩) gn gc,.slice (some ⟨bw,ow,none⟩) gn wc,.slice (some ⟨bc,oc,none⟩) gn cc,undef,.pointer (some ⟨w.heap.size,0,none⟩),.pointer (some ⟨w.heap.size+1,0,none⟩),.pointer (some ⟨w.heap.size+1+1,0,none⟩),.pointer (some ⟨w.heap.size+1+1+1,0,none⟩),.pointer (some ⟨wr.heap.size,0,none⟩),.int .i64 x.1,.slice (some ⟨bg,og,none⟩) gn gc,.slice (some ⟨bw,ow,none⟩) gn wc,.slice (some ⟨bc,oc,none⟩) gn cc,.bool true,.bool false,.slice (some ⟨bg,og,none⟩) gn gc,.int .i64 gn,.int .i64 k,.bool true,.int .i64 k,.slice (some ⟨bc,oc,none⟩) gn cc,.int .i64 k,.pointer (some ⟨bc,oc+k,none⟩),.int .i64 a,.bool true,.bool false,u 26,.slice (some ⟨bg,og,none⟩) gn gc,.slice (some ⟨bc,oc,none⟩) gn cc,.int .i64 k,.func (.func 268) #[] #[.pointer (some ⟨w2.heap.size,0,none⟩),.pointer (some ⟨w2.heap.size+2,0,none⟩),.pointer (some ⟨w2.heap.size+1,0,none⟩)],.int .i64 x.1,u 32,u 33,u 34,u 35,u 36,u 37,u 38,u 39,u 40,u 41,u 42,u 43,u 44],defers:=[] }) ?assign ?body ?done ?stop
    case assign =>
     intro l x W K hK
     gi_wp2
     exact hK
    case body =>
     intro l pre x W hW _;have hW1:=hB3.trans (hW.mono hs3);have d4:=(hW.cell (p:=⟨w.heap.size,0,none⟩) (by simp only;omega)).trans (hgw.cell x4 (by simp))
     have d5:=(hW.cell (p:=⟨w.heap.size+1,0,none⟩) (by simp only;omega)).trans (hgw.cell x5 (by simp))
     have d8:=(hW.cell (p:=⟨wr.heap.size,0,none⟩) (by simp only;omega)).trans hc8
     have dc:=(hW1.cell (p:=⟨bc,oc+k,none⟩) hbc).trans q1;have dw:=(hW1.cell (p:=⟨bw,ow+k,none⟩) hbw).trans q2;obtain⟨xv,hxv⟩:=x
     gi_wp2
     have hmx:=Tryz.AyH;refine ArA l hro hmx (by kernel_rfl) (by simp) ?_
     repeat (quiet_step_in (fail))
     refine wpQuietIn_nil ?_;rintro _ ⟨nq,rfl⟩;have hcmp:decide (IntKind.i64.wrap (a-b)<xv)=false:=by
      have e:IntKind.i64.wrap (a-b)=a-b:=by
       rw[IntKind.wrap_i64];omega
      rw[e,decide_eq_false_iff_not];omega
     simp only[hcmp]
     gi_wp2
     have hd:Below W3.heap.size W (W.drewN nq):=⟨rfl,rfl,rfl,aAC _,λ_ _=>rfl⟩
     exact⟨⟨aAC _,λ_ _ h _=>h⟩,hd,hW.trans hd⟩
    case done =>
     intro D ys W hD _ hW hK;have gWD:∀ b:Nat,b<W3.heap.size->W.heap[b]? =W3.heap[b]?:=λb hb=>hW.block b hb
     gi_wp2
     have hlD:∀ E∈ds,E<W3.heap.size/\W3.heap[E]? =some (.deferred (some [])):=λE hE=>by
      have h1:=x1.2 E hE;have h2:=(aAD.1 h1).1;exact⟨Nat.lt_of_lt_of_le h2 hgw.size,(hgw.block E h2 (by simp)).trans h1⟩
     refine⟨⟨k+1,λi=>(#[.slice (some ⟨bg,og,none⟩) gn gc,.slice (some ⟨bw,ow,none⟩) gn wc,.slice (some ⟨bc,oc,none⟩) gn cc,undef,.pointer (some ⟨w.heap.size,0,none⟩),.pointer (some ⟨w.heap.size+1,0,none⟩),.pointer (some ⟨w.heap.size+1+1,0,none⟩),.pointer (some ⟨w.heap.size+1+1+1,0,none⟩),.pointer (some ⟨wr.heap.size,0,none⟩),u 9,.slice (some ⟨bg,og,none⟩) gn gc,.slice (some ⟨bw,ow,none⟩) gn wc,.slice (some ⟨bc,oc,none⟩) gn cc,.bool true,.bool false,.slice (some ⟨bg,og,none⟩) gn gc,.int .i64 gn,.int .i64 k,.bool true,.int .i64 k,.slice (some ⟨bc,oc,none⟩) gn cc,.int .i64 k,.pointer (some ⟨bc,oc+k,none⟩),.int .i64 a,.bool true,.bool false,u 26,.slice (some ⟨bg,og,none⟩) gn gc,.slice (some ⟨bc,oc,none⟩) gn cc,.int .i64 k,.func (.func 268) #[] #[.pointer (some ⟨w2.heap.size,0,none⟩),.pointer (some ⟨w2.heap.size+2,0,none⟩),.pointer (some ⟨w2.heap.size+1,0,none⟩)],u 31,u 32,u 33,u 34,u 35,u 36,u 37,u 38,u 39,u 40,u 41,u 42,u 43,.int .i64 (k+1)]:Array Value).getD i undef,D::ds,by omega,rfl,⟨⟨List.nodup_cons.2 ⟨λhm=>by have:=(hlD D hm).1;omega,x1.1⟩,λE hE=>?_⟩,by have:=hW.size;omega,λE hE=>?_,hB3.trans (hW.mono hs3),?_,?_,?_,?_,?_,?_⟩⟩,?_⟩
     ·rcases aAL.1 hE with rfl|hE
      ·exact hK
      ·exact(hW.block E (hlD E hE).1).trans (hlD E hE).2
     ·rcases aAL.1 hE with rfl|hE
      ·omega
      ·exact x2 E hE
     ·exact(hW.cell (p:=⟨w.heap.size,0,none⟩) (by simp only;omega)).trans (hgw.cell x4 (by simp))
     ·exact(hW.cell (p:=⟨w.heap.size+1,0,none⟩) (by simp only;omega)).trans (hgw.cell x5 (by simp))
     ·exact(hW.cell (p:=⟨w.heap.size+1+1,0,none⟩) (by simp only;omega)).trans (hgw.cell x6 (by simp))
     ·exact(hW.frozen (p:=⟨w.heap.size+1+1,0,none⟩) (by simp only;omega)).trans ((hgw.frozen_far ⟨w.heap.size+1+1,0,none⟩ (by simp only;omega) (by simp)).trans x7)
     ·exact(hW.cell (p:=⟨w.heap.size+1+1+1,0,none⟩) (by simp only;omega)).trans (hgw.cell x8 (by simp))
     ·exact(hW.frozen (p:=⟨w.heap.size+1+1+1,0,none⟩) (by simp only;omega)).trans ((hgw.frozen_far ⟨w.heap.size+1+1+1,0,none⟩ (by simp only;omega) (by simp)).trans x9)
     ·simp[intOf];omega
    case stop =>
     rintro D c pre W _ _ h _;exact h.elim
  ·have hkl:k=gn:=by omega
   subst hkl
   gi_wp2
   have hB:=(x3.setCell (p:=⟨w.heap.size+1+1,0,none⟩) (by simp only;omega) (.int .i64 0)).setCell (p:=⟨w.heap.size+1+1+1,0,none⟩) (by simp only;omega) (.bool false)
   have hc7:=aAF (v:=.bool false) _ _ ((aAE (a:=⟨w.heap.size+1+1,0,none⟩) (b:=⟨w.heap.size+1+1+1,0,none⟩) (w:=wr) (v:=.int .i64 0) (by simp)).trans x8)
   have hc6:=(aAE (a:=⟨w.heap.size+1+1+1,0,none⟩) (b:=⟨w.heap.size+1+1,0,none⟩) (w:=wr.setCell ⟨w.heap.size+1+1,0,none⟩ (.int .i64 0)) (v:=.bool false) (by simp)).trans (aAF (v:=.int .i64 0) wr _ x6)
   refine Akl ds _ ⟨x1.1,λD hD=>?_⟩ λW' e1 e2 e3 e4 e5=>?_
   ·have:=x2 D hD;rw[heap_setCell_other _ _ _ _ (by simp only;omega),heap_setCell_other _ _ _ _ (by simp only;omega)]
    exact x1.2 D hD
   ·have h6:=(aAK (a:=⟨w.heap.size+1+1,0,none⟩) (e5 _ (λh=>by have:=x2 _ h;simp only at this;omega))).trans hc6
    have h7:=(aAK (a:=⟨w.heap.size+1+1+1,0,none⟩) (e5 _ (λh=>by have:=x2 _ h;simp only at this;omega))).trans hc7
    refine⟨.tuple #[.int .i64 0,.bool false],?_,rfl,e2.trans hB.os,e3.trans hB.tape,e4.trans hB.output,by rw[e1];exact hB.size,λb hb=>(e5 b (λh=>by have:=x2 b h;omega)).trans (hB.block b hb)⟩
    simp[results,Tryz.f179,go_sem,h6,h7]
end Go.Proofs.YtcaoepecbgggcaaGreatDoor
