/-
  callgraph.Of by hand: the walk.
-/
import Derived.Test.YtcaoepecbgggcaaGreatDoorDg0
import Derived.Deep.OwnRows
import Derived.Deep.RegionWith
import Derived.Deep.AppendLies
open Go.IntKind renaming signed->aAB,bits->aAD,min->aAE,max->aAF
open Go.Value renaming slice->aA
open Go.World renaming size_alloc->aAA,cell?_alloc_new->aAC
namespace Go.Proofs.YtcaoepecbgggcaaGreatDoor
set_option maxHeartbeats 40000000
open Go Go.Proofs Go.RowKit Go.WideMaps Go.Maps
variable {left:Lit->Bool} {l:List Int} {row:Option Nat} {p:List (List (Int×Int))}
theorem AsX {w:World} {ops:Array Oper} {rest:List Oper} {o:Oper} {a:Act} {Q:Exit->Act->World->Prop} (hg:o.guard=none) (it:Operand) (hop:o.op=Op.next it false) {b r n:Nat} {D:DataW Unit} {cnt:Nat} (hit:a.eval it= .pointer (some ⟨r,0,none⟩)) (h:w.ranges Tryz.prog 190 R3 b r n D left cnt) (hleft:∀ kl,left kl=true->∃ x y:Int,(Lit.int .i64 x).wf=true/\(Lit.int .i64 y).wf=true/\kl=KL x y) (hDone:cnt=0->(∀ kl,left kl=false)->wpList Tryz.prog ops Q rest (a.put o.dst (.tuple #[.bool false])) w) (hMore:∀ (x y c:Int) (w':World) (cnt':Nat),(Lit.int .i64 x).wf=true->(Lit.int .i64 y).wf=true->left (KL x y)=true->w'.ranges Tryz.prog 190 R3 b r n D (λz=>left z&& !z.sameKey (KL x y)) cnt'->cnt'<cnt ->
   w.grownBy w' (some r)->w'.heap.size=w.heap.size->(Instr.entry (.pointer (some ⟨r,0,none⟩))).run Tryz.prog w'= .ok (.tuple #[.agg #[.int .i64 x,.int .i64 y],.int .i64 c]) w'->wpList Tryz.prog ops Q rest (a.put o.dst (.tuple #[.bool true,.agg #[.int .i64 x,.int .i64 y],.int .i64 c])) w') :
  wpList Tryz.prog ops Q (o::rest) a w:=by
 refine wpList_plain hg λK' hK'=>?_
 unfold Oper.wp;rcases h.next Akj o.type with⟨h0,hl,hrun⟩|⟨key,v,kl,z,w',cnt',hkey,hlk,hv,hat,hrun,hrg,hlt,hgr,hsz,hen⟩
 ·simp[execOp,hop,hit,hrun,Result.andThen];exact hK' _ _ (hDone h0 hl)
 ·obtain⟨x,y,wx,wy,rfl⟩:=hleft kl hlk;obtain rfl:=Akj.inj hkey (Anc wx wy);obtain⟨c,rfl,_,_⟩:=plainElem_int_inv Tryz.underlying3 hv;simp[execOp,hop,hit,hrun,Result.andThen];exact hK' _ _ (hMore x y c w' cnt' wx wy hlk hrg hlt hgr hsz hen)
def AdM (r:Nat) (w:World) (v:Value) (l:List Int):Prop:=(l=[]/\v= .slice none 0 0)\/∃ b cap,v= .slice (some ⟨b,0,none⟩) l.length cap/\l.length<=cap/\r<b/\b<w.heap.size/\∀ (j:Nat) x,l[j]? =some x->w.cell? ⟨b,j,none⟩=some (.int .i64 x)
theorem AdM.kept {r:Nat} {w w':World} {v:Value} (h:AdM r w v l) (hg:w.grownBy w' row) (hr:∀ b,row=some b->b<=r):AdM r w' v l:=by
 rcases h with h|⟨b,cap,h1,h2,h3,h4,h5⟩
 ·exact .inl h
 ·refine .inr ⟨b,cap,h1,h2,h3,Nat.lt_of_lt_of_le h4 hg.size,λj x hx=>?_⟩
  have hb:=hg.block b h4 (λe=>by have:=hr b e.symm;omega)
  have:=h5 j x hx;unfold World.cell? at this ⊢;simp only[hb];exact this
theorem RT.rng {n:Nat} (hp:p.length=n) {k m:Nat} {a b:Int} (h:RT p k m a b):0<=a/\a<n:=by
 obtain⟨i,j,l,h1,_,rfl,_⟩:=h;have:=(List.getElem?_eq_some_iff.1 h1).1;omega
def Ajz (b0 o0:Nat) (p:List (List (Int×Int))) (w:World):Prop:=∀ (k:Nat) l,p[k]? =some l->∃ px ya yl yc bc oc cc,w.cell? ⟨b0,o0+k*3,none⟩=some (.int .i64 px)/\w.cell? ⟨b0,o0+k*3+1,none⟩=some (.slice ya yl yc)/\w.cell? ⟨b0,o0+k*3+2,none⟩=some (.slice (some ⟨bc,oc,none⟩) l.length cc)/\bc<w.heap.size /\
   ∀ (m:Nat) q,l[m]? =some q->(q.1=22->(Lit.int .i64 q.2).wf=true)/\∃ c d e,w.cell? ⟨bc,oc+m*5,none⟩=some (.int .i64 q.1)/\w.cell? ⟨bc,oc+m*5+1,none⟩=some (.int .i64 q.2)/\w.cell? ⟨bc,oc+m*5+2,none⟩=some (.int .i64 c)/\w.cell? ⟨bc,oc+m*5+3,none⟩=some (.int .i64 d)/\w.cell? ⟨bc,oc+m*5+4,none⟩=some (.int .u64 e)
theorem Ajz.below {b0 o0:Nat} {w w':World} (h:Ajz b0 o0 p w) (hb:b0<w.heap.size) (hw:Below w.heap.size w w'):Ajz b0 o0 p w':=by
 intro k l hp;obtain⟨px,ya,yl,yc,bc,oc,cc,h1,h2,h3,hbc,hq⟩:=h k l hp;refine⟨px,ya,yl,yc,bc,oc,cc,(hw.cell hb).trans h1,(hw.cell hb).trans h2,(hw.cell hb).trans h3,Nat.lt_of_lt_of_le hbc hw.size,λm q hm=>?_⟩
 obtain⟨wq,c,d,e,e1,e2,e3,e4,e5⟩:=hq m q hm;exact⟨wq,c,d,e,(hw.cell hbc).trans e1,(hw.cell hbc).trans e2,(hw.cell hbc).trans e3,(hw.cell hbc).trans e4,(hw.cell hbc).trans e5⟩
def Adj (p:List (List (Int×Int))) (len G r:Nat) (St:List Int->Prop) (left:Lit->Bool) (w:World):Prop:=∀ i:Nat,i<len->w.frozen? ⟨G,i,none⟩=false/\∃ v l,w.cell? ⟨G,i,none⟩=some v/\AdM r w v l/\St l/\∀ y,y∈l↔RT p len 0 i y/\left (KL i y)=false
theorem Adj.kept {len G r:Nat} {St:List Int->Prop} {w w':World} (h:Adj p len G r St left w) (hg:w.grownBy w' row) (hr:∀ b,row=some b->b<=r) (hG:some G≠row) (hGw:G<w.heap.size):Adj p len G r St left w':=by
 intro i hi;obtain⟨h1,v,l,h2,h3,h4⟩:=h i hi;exact⟨(hg.frozen_far ⟨G,i,none⟩ hGw hG).trans h1,v,l,hg.cell h2 hG,h3.kept hg hr,h4⟩
theorem AtZ (w:World) (a:Addr) (u:Value):w.grownBy (w.setCell a u) (some a.block) :=
 ⟨rfl,rfl,rfl,by simp,λk _ hk=>heap_setCell_other w a k u (λe=>hk (by rw[e]))⟩
section
variable {p:List (List (Int×Int))} {len M G r n:Nat} {D:DataW Unit} {left:Lit->Bool} {cnt:Nat} {St:List Int->Prop} {Ok:Int->Prop} {add:Int->List Int->List Int} {w wn wa:World}
theorem Axx (hlen:p.length=len) (hl:len<=100) (hOk:∀ a b,RT p len 0 a b->Ok b) (hwf:∀ a,Ok a->(Lit.int .i64 a).wf=true) (hst:∀ l x,St l->Ok x->St (add x l)) (hm:∀ l x y,St l->Ok x->(y∈add x l↔y=x\/y∈l)) {i:Nat} {y:Int} (hi:i<len) (hsn:RT p len 0 i y) (hrg:wn.ranges Tryz.prog 190 R3 M r n D (λz=>left z&& !z.sameKey (KL i y)) cnt) (hlf:∀ kl,left kl=true->∃ a b,RT p len 0 a b/\kl=KL a b) (hwn:Below w.heap.size w wn) (hga:wn.grownBy wa none) (hGw:w.heap.size<=G) (hGM:G<M) (hGr:G<r) (hR:Adj p len G r St left wn) (hmem:∀ y,y∈l↔RT p len 0 i y/\left (KL i y)=false) (hSt:St l) {v v':Value} (hv:wa.cell? ⟨G,i,none⟩=some v) (hrv:AdM r wa v' (add y l)) :
  ∃ left':Lit->Bool,(wa.setCell ⟨G,i,none⟩ v').ranges Tryz.prog 190 R3 M r n D left' cnt/\(∀ kl,left' kl=true->∃ a b,RT p len 0 a b/\kl=KL a b)/\Below w.heap.size w (wa.setCell ⟨G,i,none⟩ v')/\r<(wa.setCell ⟨G,i,none⟩ v').heap.size/\Adj p len G r St left' (wa.setCell ⟨G,i,none⟩ v'):=by
 have hgs:=AtZ wa ⟨G,i,none⟩ v';have hrga:=hrg.kept hga (by simp) (by simp)
 have hrl:=hrga.lt;have wfn:∀ a b,RT p len 0 a b->(Lit.int .i64 a).wf=true/\(Lit.int .i64 b).wf=true:=λa b h=>by
  have:=h.rng hlen;exact⟨by simp[Lit.wf,aAE,aAF,aAB,aAD];omega,hwf b (hOk a b h)⟩
 have hkey:∀ a b,RT p len 0 a b->((!(KL a b).sameKey (KL i y))=true↔¬ (a=i/\b=y)):=λa b h=>by
  have w1:=wfn a b h;have w2:=wfn i y hsn;constructor
  ·rintro hh ⟨rfl,rfl⟩;rw[WideAt.sameKey_self (show WideAt.IsKeyLit (KL _ _)from trivial)]at hh
   cases hh
  ·intro hh;rw[sameKey_ne (λe=>hh (Atp w1.1 w1.2 w2.1 w2.2 e))]
   rfl
 refine⟨_,hrga.kept hgs (λe=>by have:=Option.some.inj e;simp only at this;omega) (λe=>by have:=Option.some.inj e;simp only at this;omega),λkl hk=>?_,((hwn.grown hga hwn.size (λk hk=>by cases hk)).setCell hGw _),by rw[World.size_setCell];exact hrl,?_⟩
 ·simp only[Bool.and_eq_true]at hk;exact hlf kl hk.1
 ·have hRa:=hR.kept hga (λb hb=>by cases hb) (by simp) (by have:=hrg.lt;omega)
  intro j hj;obtain⟨f1,v0,l0,f2,f3,f4,f5⟩:=hRa j hj;refine⟨by rw[World.frozen?_setCell];exact f1,?_⟩
  by_cases e:j=i
  ·subst e;refine⟨v',add y l,World.cell?_setCell_same _ _ _ hv,hrv.kept hgs (λb hb=>by cases hb;simp only;omega),hst _ _ hSt (hOk _ _ hsn),λz=>?_⟩
   rw[hm _ _ _ hSt (hOk _ _ hsn),hmem];constructor
   ·rintro(rfl|⟨h1,h2⟩)
    ·exact⟨hsn,by dsimp only;rw[WideAt.sameKey_self (show WideAt.IsKeyLit (KL _ _)from trivial)];simp⟩
    ·exact⟨h1,by dsimp only;rw[h2];rfl⟩
   ·rintro⟨h1,h2⟩
    by_cases e:z=y
    ·exact .inl e
    ·have:=(hkey _ _ h1).2 (λh=>e h.2)
     dsimp only at h2;rw[this,Bool.and_true]at h2;exact .inr ⟨h1,h2⟩
  ·refine⟨v0,l0,?_,f3.kept hgs (λb hb=>by cases hb;simp only;omega),f4,λz=>?_⟩
   ·rw[World.cell?_setCell_other _ _ _ _ (λh=>e (by have:=congrArg Addr.off h;exact this.symm))]
    exact f2
   ·rw[f5];constructor
    ·rintro⟨h1,h2⟩;exact⟨h1,by dsimp only;rw[h2];rfl⟩
    ·rintro⟨h1,h2⟩;have:=(hkey _ _ h1).2 (λh=>e (by have:=h.1;omega))
     dsimp only at h2;rw[this,Bool.and_true]at h2;exact⟨h1,h2⟩
end
theorem AyK (b0 o0 len cap:Nat) (p:List (List (Int×Int))) (w:World) (hlen:p.length=len) (hl:len<=100) (hcl:∀ l∈p,l.length<=2000) (hb0:b0<w.heap.size) (hc:Ajz b0 o0 p w)
  (Ok:Int->Prop) (hOk:∀ a b,RT p len 0 a b->Ok b) (hwf:∀ a,Ok a->(Lit.int .i64 a).wf=true) (St:List Int->Prop) (h0:St []) (add:Int->List Int->List Int) (hst:∀ l x,St l->Ok x->St (add x l)) (hm:∀ l x y,St l->Ok x->(y∈add x l↔y=x\/y∈l))
  (hadd:∀ (r:Nat) (W:World) (v:Value) (l:List Int) (x:Int),Below w.heap.size w W->r<W.heap.size->St l->Ok x->AdM r W v l->Calls Tryz.prog 171 #[v,.int .i64 x] W λe W'=>∃ va vn vc,e= .returned (.slice va vn vc)/\AdM r W' (.slice va vn vc) (add x l)/\W.grownBy W' none) :
  Calls Tryz.prog 109 #[.agg #[.slice (some ⟨b0,o0,none⟩) len cap]] w λe w'=>∃ G r,e= .returned (.slice (some ⟨G,0,none⟩) len len)/\w.heap.size<=G/\G<w'.heap.size/\Below w.heap.size w w'/\w.heap.size<=r/\Adj p len G r St (λ_=>false) w':=by
 have hmk:=run_make_row' (P:=Tryz.prog) 43 37 (.slice none 0 0) 24 Tryz.underlying43 (by kernel_rfl) rfl .i64 .i64 len (by omega) (by omega)
 have hB2:Below w.heap.size w ((w.alloc (Obj.cells #[aA (some { block:=b0,off:=o0 }) len cap] 28)).alloc (Obj.cells (madeCells #[aA none 0 0] len) 37)):=((Below.refl _ _).alloc (Nat.le_refl _) _).alloc (by simp) _
 have hP2:=hc.below hb0 hB2;have hb2:b0<((w.alloc (Obj.cells #[aA (some { block:=b0,off:=o0 }) len cap] 28)).alloc (Obj.cells (madeCells #[aA none 0 0] len) 37)).heap.size:=by simp;omega
 go_enter Tryz.func109,Tryz.ntmps109
 go_wp2_with (first
  | (go_at_call 170;refine(AsD b0 o0 len cap p _ hlen hl hcl hb2 hP2).mono ?_;rintro e w1 ⟨M,n,D,rfl,hM,hown,hS,hbl⟩)
  | (at_range;refine wpList_range_own _ rfl _ 188 rfl 190 3 Akj Tryz.underlying188 R3 M n D rfl hown ?_;intro w0 hrg0 hg0 hs0)
  | go_in)
 go_frame
 have hG1:w.heap.size+2<=w1.heap.size:=by have:=hbl.size;simpa using this
 have hBw1:=hB2.trans (hbl.mono (by simp only[aAA];omega))
 go_loopw [12] (λ_ wr=>∃ (left:Lit->Bool) (cnt:Nat),wr.ranges Tryz.prog 190 R3 M w1.heap.size n D left cnt/\(∀ kl,left kl=true->∃ a b,RT p len 0 a b/\kl=KL a b)/\Below w.heap.size w wr/\w1.heap.size<wr.heap.size/\Adj p len (w.heap.size+1) w1.heap.size St left wr)
  (λ_ wr=>wr.rangeLeft M w1.heap.size)
 case atStart =>
  refine⟨_,_,hrg0,hS.2,hBw1.grown hg0 hBw1.size (λj hj=>by cases hj),by omega,λi hi=>⟨?_,.slice none 0 0,[],?_,.inl ⟨rfl,rfl⟩,h0,λy=>?_⟩⟩
  ·have e:=World.frozen?_alloc_new (w:=w.alloc (Obj.cells #[aA (some { block:=b0,off:=o0 }) len cap] 28)) (madeCells #[aA none 0 0] len) 37 i;rw[aAA]at e;exact(hg0.frozen_far ⟨w.heap.size+1,i,none⟩ (by simp only;omega) (by simp)).trans ((hbl.frozen (p:=⟨w.heap.size+1,i,none⟩) (by simp)).trans e)
  ·have e:=aAC (w:=w.alloc (Obj.cells #[aA (some { block:=b0,off:=o0 }) len cap] 28)) (madeCells #[aA none 0 0] len) 37 i;rw[aAA]at e;refine hg0.cell ((hbl.cell (p:=⟨w.heap.size+1,i,none⟩) (by simp)).trans (e.trans ?_)) (by simp)
   simp[madeCells,hi,Nat.mod_one]
  ·constructor
   ·intro hy;cases hy
   ·rintro⟨h1,h2⟩;rw[hS.1 _ _ h1]at h2;cases h2
 case round =>
  obtain⟨left,cnt,hrg,hlf,hnx,hsz,hR⟩:=hrel
  go_wp2_with (first
   | (at_next;refine AsX rfl _ rfl rfl hrg ?_ ?_ ?_)
   | go_in)
  ·intro kl hkl;obtain⟨a,b,h1,rfl⟩:=hlf kl hkl;have:=h1.rng hlen;exact⟨a,b,by simp[Lit.wf,aAE,aAF,aAB,aAD];omega,hwf b (hOk a b h1),rfl⟩
  ·intro _ hl0
   go_wp2
   go_ret
   refine⟨_,w1.heap.size,rfl,by omega,by omega,hnx,by omega,λi hi=>?_⟩
   obtain⟨f1,v,l,f2,f3,f4,f5⟩:=hR i hi;exact⟨f1,v,l,f2,f3,f4,λy=>by rw[f5,hl0]⟩
  ·intro x y c wn cnt1 wx wy hlx hrg1 hlt hg1 hs1 hen;obtain⟨a,b,h1,he⟩:=hlf _ hlx;have hrn:=h1.rng hlen;obtain⟨rfl,rfl⟩:=Atp wx wy (by simp[Lit.wf,aAE,aAF,aAB,aAD];omega) (hwf b (hOk a b h1)) he
   obtain⟨i,rfl⟩:∃ i:Nat,x=i:=⟨x.toNat,by omega⟩
   have hi:i<len:=by omega
   have hGM:w.heap.size+1<M:=by have:=hM;simp only[aAA]at this;omega
   have hnw:Below w.heap.size w wn:=hnx.grown hg1 hnx.size (λj hj=>by cases hj;omega)
   have hRn:Adj p len (w.heap.size+1) w1.heap.size St left wn:=hR.kept hg1 (λb hb=>by cases hb;omega) (by simp;omega) (by omega)
   obtain⟨hfz,v,l,hv,hrow,hSt,hmem⟩:=hRn i hi;have hgd:wn.grownBy (wn.alloc (.cells #[.int .i64 i,.int .i64 y] 190)).drew none:=by
    have g:=World.grownBy_alloc wn (.cells #[.int .i64 i,.int .i64 y] 190) none;exact⟨g.os,g.tape,g.output,g.size,g.block⟩
   have hv':=hgd.cell hv (by simp)
   have hfz':=(hgd.frozen_far ⟨w.heap.size+1,i,none⟩ (by simp only;omega) (by simp)).trans hfz
   have hrow':=hrow.kept hgd (λb hb=>by cases hb)
   have hp0:(wn.alloc (.cells #[.int .i64 i,.int .i64 y] 190)).drew.cell? ⟨wr.heap.size,0,none⟩=some (.int .i64 i):=by
    rw[<- hs1];have:=aAC (w:=wn) #[.int .i64 i,.int .i64 y] 190 0;exact this
   have hcall:=hadd w1.heap.size (wn.alloc (.cells #[.int .i64 i,.int .i64 y] 190)).drew v l y (hnw.alloc hnw.size _).drew (by simp;omega) hSt (hOk _ _ h1) hrow'
   have fin:=λ(wa:World) (v':Value) (hga:(wn.alloc (.cells #[.int .i64 i,.int .i64 y] 190)).drew.grownBy wa none) (hrv:AdM w1.heap.size wa v' (add y l)) =>
    Axx (w:=w) hlen hl hOk hwf hst hm hi h1 hrg1 hlf hnw (hgd.trans hga) (by omega) hGM (by omega) hRn hmem hSt (hga.cell hv' (by simp)) hrv
   go_wp2
   go_region_with (go_at_call 171;refine hcall.mono ?_;rintro e wa ⟨va,vn,vc,rfl,hrv,hga⟩;have hca:=hga.cell hv' (by simp);have hpa:=hga.cell hp0 (by simp);have hfa:=(hga.frozen_far ⟨w.heap.size+1,i,none⟩ (by simp;omega) (by simp)).trans hfz')
   all_goals
    obtain⟨left',F1,F2,F3,F4,F5⟩:=fin _ _ hga hrv
    go_wp2
    go_roundw
    case rel=>exact⟨left',cnt1,F1,F2,F3,F4,F5⟩
    case measure=>rw[F1.left_eq,hrg.left_eq];exact hlt
end Go.Proofs.YtcaoepecbgggcaaGreatDoor
