/-
  Functions whose contracts are proved by hand: what they compute, as far as it is asked.
-/
import Derived.Test.YtcaoepecbgggcaaGreatDoorDxT
namespace Go.Proofs.YtcaoepecbgggcaaGreatDoor
open Go Go.Dw Go.Proofs

/-- a number among rising ones -/
def AmU (n:Int):List Int->List Int
  | []=>[n]
  | x::r=>if x<n then x::AmU n r else if x=n then x::r else n::x::r
def AkK (n:Int) (s:List Int):List Int:=if 0<=n/\n<512 then AmU n s else s
/-- the functions that some code calls -/
def YR (l:List NH):List Int:=l.foldl (λs x=>if x.Op=22 then AkK x.A s else s) []
/-- programs whose calls are looked at -/
def Auu (p:NM):Prop:=(1<=p.Funcs.length/\p.Funcs.length<=80)/\∀ f∈p.Funcs, (1<=f.Code.length/\f.Code.length<=1024)/\∀ x∈f.Code, x.Op=22->0<=x.A/\x.A<p.Funcs.length
open Classical in
noncomputable def AmJ (p:NM):Option (List (List Int)):=chk (Auu p) (some (p.Funcs.map λf=>YR f.Code))
def AcB (a:NM):List D:=[Rk a]
def AhX (ds:List D):NM:=Th (ds.getD 0 .top)
theorem AvZ (a:NM):AhX (AcB a)=a:=by simp[AhX, AcB]
instance:Od AcB AhX:=⟨AvZ⟩
def Apw (b:List (List Int)):D:= .sl (b.map (eL Mk))
noncomputable def AlI:Dw.Spec:=NN [] .val AcB AhX (λa=>AmJ a) Apw (λ_=>[])

/-- bounds that are right -/
def BrG (g:List (List Int)) (w c:List Int):Prop:=(1<=g.length/\g.length<=80)/\(∀ s∈g, (s.Pairwise (· <·)/\∀ x∈s, 0<=x/\x<512)/\∀ x∈s, x<g.length)/\(w.length=g.length/\∀ x∈w, 0<=x/\x<=2147483647)/\c.length=g.length /\
  ∀ i, i<g.length->∃ a b s, c[i]? =some a/\w[i]? =some b/\g[i]? =some s/\0<=a/\a<=2147483647/\b<=a/\∀ j∈s, ∃ d, c[j.toNat]? =some d/\d<=a-b
open Classical in
noncomputable def AeJ (g:List (List Int)) (w c:List Int):Option (Int×Bool):=chk (BrG g w c) (some (0, false))
def Yo (a:List (List Int)×List Int×List Int):List D:=[.sl (a.1.map (eL Mk)), .sl (a.2.1.map Mk), .sl (a.2.2.map Mk)]
def Adk (ds:List D):List (List Int)×List Int×List Int:=((uL (uL uI)) (ds.getD 0 .top), (uL uI) (ds.getD 1 .top), (uL uI) (ds.getD 2 .top))
theorem Asj (a:List (List Int)×List Int×List Int):Adk (Yo a)=a:=by simp[Adk, Yo, OG (u:=uL uI) (en:=eL Mk) (λl=>OG (λ_=>rfl) l), OG (u:=uI) (en:=Mk) (λ_=>rfl)]
instance:Od Yo Adk:=⟨Asj⟩
def AnJ (b:Int×Bool):D:= .tup [.int .i64 b.1, .bool b.2]
noncomputable def Aja:Dw.Spec:=NN [] .ground Yo Adk (λa=>AeJ a.1 a.2.1 a.2.2) AnJ (λ_=>[])

/-- the table of translations -/
def ZQ:List Nat:=[235, 235, 235, 235, 235, 235, 235, 235, 235, 235, 235, 235, 235, 235, 235, 236, 237, 238, 239, 240, 235, 235, 235, 235, 235]
def Zd:Option Unit:=some ()
def Ake (_:Unit):List D:=[]
def Akd (_:List D):Unit:=()
instance:Od Ake Akd:=⟨λ_=>rfl⟩
noncomputable def XK:Dw.Spec:=NN [] .val Ake Akd (λ_=>Zd) (λ_=> .agg (ZQ.map AhZ)) (λ_=>[])
end Go.Proofs.YtcaoepecbgggcaaGreatDoor
