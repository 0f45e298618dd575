/-
  Functions whose contracts are proved by hand: what they compute, as far as it is asked.
-/
import Derived.Test.YtcaoepecbgggcaaGreatDoorDxT
namespace Go.Proofs.YtcaoepecbgggcaaGreatDoor
open Go Go.Dw Go.Proofs

/-- a number among rising ones -/
def AnO (n:Int):List Int->List Int
  | []=>[n]
  | x::r=>if x<n then x::AnO n r else if x=n then x::r else n::x::r
def AnD (n:Int) (s:List Int):List Int:=if 0<=n/\n<512 then AnO n s else s
/-- the functions that some code calls -/
def YX (l:List Av):List Int:=l.foldl (λs x=>if x.Op=22 then AnD x.A s else s) []
/-- programs whose calls are looked at -/
def Avj (p:Nq):Prop:=(1<=p.Funcs.length/\p.Funcs.length<=80)/\∀ f∈p.Funcs, (1<=f.Code.length/\f.Code.length<=1024)/\∀ x∈f.Code, x.Op=22->0<=x.A/\x.A<p.Funcs.length
open Classical in
noncomputable def AnI (p:Nq):Option (List (List Int)):=chk (Avj p) (some (p.Funcs.map λf=>YX f.Code))
def Acn (a:Nq):List D:=[Pz a]
def Aij (ds:List D):Nq:=Rp (ds.getD 0 .top)
theorem Axb (a:Nq):Aij (Acn a)=a:=by simp[Aij, Acn]
instance:OZ Acn Aij:=⟨Axb⟩
def ApW (b:List (List Int)):D:= .sl (b.map (eL Lo))
noncomputable def AmR:Dw.Spec:=NU [] .val Acn Aij (λa=>AnI a) ApW (λ_=>[])

/-- bounds that are right -/
def BrG (g:List (List Int)) (w c:List Int):Prop:=(1<=g.length/\g.length<=80)/\(∀ s∈g, (s.Pairwise (· <·)/\∀ x∈s, 0<=x/\x<512)/\∀ x∈s, x<g.length)/\(w.length=g.length/\∀ x∈w, 0<=x/\x<=2147483647)/\c.length=g.length /\
  ∀ i, i<g.length->∃ a b s, c[i]? =some a/\w[i]? =some b/\g[i]? =some s/\0<=a/\a<=2147483647/\b<=a/\∀ j∈s, ∃ d, c[j.toNat]? =some d/\d<=a-b
open Classical in
noncomputable def AeD (g:List (List Int)) (w c:List Int):Option (Int×Bool):=chk (BrG g w c) (some (0, false))
def Yt (a:List (List Int)×List Int×List Int):List D:=[.sl (a.1.map (eL Lo)), .sl (a.2.1.map Lo), .sl (a.2.2.map Lo)]
def AcR (ds:List D):List (List Int)×List Int×List Int:=((uL (uL uI)) (ds.getD 0 .top), (uL uI) (ds.getD 1 .top), (uL uI) (ds.getD 2 .top))
theorem Asq (a:List (List Int)×List Int×List Int):AcR (Yt a)=a:=by simp[AcR, Yt, Qe (u:=uL uI) (en:=eL Lo) (λl=>Qe (λ_=>rfl) l), Qe (u:=uI) (en:=Lo) (λ_=>rfl)]
instance:OZ Yt AcR:=⟨Asq⟩
def AoD (b:Int×Bool):D:= .tup [.int .i64 b.1, .bool b.2]
noncomputable def AjI:Dw.Spec:=NU [] .ground Yt AcR (λa=>AeD a.1 a.2.1 a.2.2) AoD (λ_=>[])

/-- the table of translations -/
def ZY:List Nat:=[235, 235, 235, 235, 235, 235, 235, 235, 235, 235, 235, 235, 235, 235, 235, 236, 237, 238, 239, 240, 235, 235, 235, 235, 235]
def Zk:Option Unit:=some ()
def AkQ (_:Unit):List D:=[]
def AkP (_:List D):Unit:=()
instance:OZ AkQ AkP:=⟨λ_=>rfl⟩
noncomputable def XU:Dw.Spec:=NU [] .val AkQ AkP (λ_=>Zk) (λ_=> .agg (ZY.map Ail)) (λ_=>[])
end Go.Proofs.YtcaoepecbgggcaaGreatDoor
