/-
  certificate.Broken by hand: the iterator.
-/
import Derived.RangeFuncFrom
import Derived.RangeFuncCalls
import Derived.Shelf.RegionOpen
import Derived.WalkKit
import Derived.OwnWalkIn
import Derived.LoopNIn
import Derived.LoopIn
import Derived.Test.YtcaoepecbgggcaaGreatDoorProg
namespace Go.Proofs.YtcaoepecbgggcaaGreatDoor
open Go Go.Proofs Go.RowKit Go.Shelf
set_option maxHeartbeats 40000000
attribute [local go_sem] Oper.semAt_some
def Aic (n₀:Nat) (W:World) (v:Value) (cv:Value) (row:List Nat) (at_:Nat->Int):Prop:=(row=[]/\∃ a c,v= .slice a 0 c) \/
 ∃ br or_ cr bc oc cn cc,v= .slice (some ⟨br,or_,none⟩) row.length cr/\cv= .slice (some ⟨bc,oc,none⟩) cn cc/\br<n₀/\bc<n₀/\∀ (k:Nat) x,row[k]? =some x->x<cn/\W.cell? ⟨br,or_+k,none⟩=some (.int .i64 (x:Int))/\W.cell? ⟨bc,oc+x,none⟩=some (.int .i64 (at_ x))
theorem Aic.below {n₀:Nat} {W W':World} {v cv:Value} {row:List Nat} {at_:Nat->Int} (h:Aic n₀ W v cv row at_) (hW:Below n₀ W W'):Aic n₀ W' v cv row at_:=by
 rcases h with h|⟨br,or_,cr,bc,oc,cn,cc,h1,h2,h3,h4,h5⟩
 ·exact .inl h
 ·exact .inr ⟨br,or_,cr,bc,oc,cn,cc,h1,h2,h3,h4,λk x hx=>by
   obtain⟨q0,q1,q2⟩:=h5 k x hx
   exact⟨q0,(hW.cell (p:=⟨br,or_+k,none⟩) h3).trans q1,(hW.cell (p:=⟨bc,oc+x,none⟩) h4).trans q2⟩⟩
set_option maxRecDepth 100000 in
theorem Aun (F:Fence) (n:Nat) (hF:F.fn 268) (hro:F.round=none) (hn:1<=n) (l bG bI bC n₀ bg og gn gc i:Nat) (cv v:Value) (row:List Nat) (at_:Nat->Int) (B:Int) (h0B:0<=B) (hB:∀ x∈row,at_ x<=B) (hi:i<gn) (hbg:bg<n₀) (hrl:row.length<=100000)
  (J Jx:List {x:Int // x<=B}->World->Prop)
  (hY:∀ pre x W,J pre W->pre.length<row.length+1->YieldAt F (n-1) Tryz.prog l #[.int .i64 x.1] W λe W' =>
   (e= .returned (.bool true)/\J (pre++[x]) W'/\Below n₀ W W')\/(e= .returned (.bool false)/\Jx (pre++[x]) W'))
  (W:World) (hbG:bG<n₀) (hbI:bI<n₀) (hbC:bC<n₀) (hG:W.cell? ⟨bG,0,none⟩=some (.slice (some ⟨bg,og,none⟩) gn gc)) (hI:W.cell? ⟨bI,0,none⟩=some (.int .i64 (i:Int))) (hC:W.cell? ⟨bC,0,none⟩=some cv)
  (hrow0:W.cell? ⟨bg,og+i,none⟩=some v) (hv:Aic n₀ W v cv row at_) (h0:J [] W) :
  CallsIn F n Tryz.prog 268 #[.func (.yield l) #[] #[],.pointer (some ⟨bG,0,none⟩),.pointer (some ⟨bI,0,none⟩),.pointer (some ⟨bC,0,none⟩)] W λe W'=>(∃ v,e= .returned v) /\
   ((∃ xs,True/\J xs W')\/(∃ pre,True/\Jx pre W')):=by
 refine callsIn_of_wp Tryz.func268 rfl hF ?_ hro;simp only[Tryz.ntmps268,List.size_toArray,List.length_cons,List.length_nil,Nat.reduceAdd,Nat.reduceSub,Array.replicate_succ,Array.replicate_zero,List.push_toArray,List.append_toArray,List.nil_append,List.cons_append];obtain⟨fn,tmps,assign,body,hy,hR⟩:=hY [] ⟨0,h0B⟩ W h0 (by simp)
 dsimp only at hy
 gi_wp2
 refine hR.mono ?_;rintro e W1 (⟨rfl,hJ1,hk1⟩|⟨rfl,hJx1⟩)
 ·have g1:=(hk1.cell (p:=⟨bG,0,none⟩) hbG).trans hG;have i1:=(hk1.cell (p:=⟨bI,0,none⟩) hbI).trans hI;have r1:=(hk1.cell (p:=⟨bg,og+i,none⟩) hbg).trans hrow0;have v1:=hv.below hk1;rcases v1 with⟨rfl,a,c,rfl⟩|⟨br,or_,cr,bc,oc,cn,cc,rfl,rfl,hbr,hbc,hat⟩
  ·gi_wp2
   gi_loopw [15] (λkv wr=>kv= .int .i64 0/\J ([]++[⟨0,h0B⟩]) wr) (λ_ _=>0)
   case atStart=>exact⟨rfl,hJ1⟩
   case round =>
    obtain⟨rfl,hJ⟩:=hrel
    gi_wp2
    go_end0
    exact⟨⟨_,rfl⟩,.inl ⟨_,trivial,hJ⟩⟩
  ·gi_wp2
   gi_loopw [15] (λkv wr=>∃ (k:Nat) (pre:List {x:Int // x<=B}),k<=row.length/\kv= .int .i64 k/\pre.length=k+1/\J pre wr/\Below n₀ W wr) (λkv _=>row.length-(intOf kv).toNat)
   case atStart=>exact⟨0,_,Nat.zero_le _,rfl,rfl,hJ1,hk1⟩
   case round =>
    obtain⟨k,pre,hk,rfl,hpl,hJ,hwr⟩:=hrel
    by_cases hlt:k<row.length
    ·obtain⟨x,hx⟩:∃ x,row[k]? =some x:=⟨row[k],List.getElem?_eq_getElem hlt⟩;have hwr1:Below n₀ W wr:=hwr;rcases hv with⟨rfl,_⟩|⟨br',or',cr',bc',oc',cn',cc',e1,e2,hbr',hbc',hat'⟩
     ·cases hx
     obtain⟨q0,q1,q2⟩:=hat' k x hx;rw[Value.slice.injEq]at e1 e2;obtain⟨e1,_,rfl⟩:=e1;obtain⟨e2,rfl,rfl⟩:=e2;obtain⟨rfl,rfl⟩:br=br'/\or_=or':=by simpa using e1
     obtain⟨rfl,rfl⟩:bc=bc'/\oc=oc':=by simpa using e2
     have c1:=(hwr.cell (p:=⟨br,or_+k,none⟩) hbr).trans q1;have c2:=(hwr.cell (p:=⟨bc,oc+x,none⟩) hbc).trans q2;have c3:=(hwr.cell (p:=⟨bC,0,none⟩) hbC).trans hC;have hxn:x<cn:=by omega
     obtain⟨fn,tmps,assign,body,hy,hR⟩:=hY pre ⟨at_ x,hB x (List.mem_of_getElem? hx)⟩ wr hJ (by omega)
     dsimp only at hy
     gi_wp2
     refine hR.mono ?_;rintro e W2 (⟨rfl,hJ2,hk2⟩|⟨rfl,hJx2⟩)
     ·gi_wp2
      go_roundw
      case rel=>exact⟨k+1,_,by omega,by go_num,by simp[hpl],hJ2,hwr.trans hk2⟩
      case measure=>simp[intOf];omega
     ·gi_wp2
      refine bodyPost_ret (results_none rfl _ _ _) rfl ?_;exact⟨⟨_,rfl⟩,.inr ⟨_,trivial,hJx2⟩⟩
    ·have hkl:k=row.length:=by omega
     subst hkl
     gi_wp2
     go_end0
     exact⟨⟨_,rfl⟩,.inl ⟨_,trivial,hJ⟩⟩
 ·gi_wp2
  refine bodyPost_ret (results_none rfl _ _ _) rfl ?_;exact⟨⟨_,rfl⟩,.inr ⟨_,trivial,hJx1⟩⟩
end Go.Proofs.YtcaoepecbgggcaaGreatDoor
