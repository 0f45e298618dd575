/-
  Functions whose contracts are proved by hand: what they compute, as far as it is asked.
-/
import Derived.Test.YtcaoepecbgggcaaGreatDoorDxT
namespace Go.Proofs.YtcaoepecbgggcaaGreatDoor
open Go Go.Dw Go.Proofs

/-- a number among rising ones -/
def AoF (n:Int):List Int->List Int
  | []=>[n]
  | x::r=>if x<n then x::AoF n r else if x=n then x::r else n::x::r
def Amt (n:Int) (s:List Int):List Int:=if 0<=n/\n<512 then AoF n s else s
/-- the functions that some code calls -/
def ZB (l:List Mk):List Int:=l.foldl (λs x=>if x.Op=22 then Amt x.A s else s) []
/-- programs whose calls are looked at -/
def Awb (p:NM):Prop:=(1<=p.Funcs.length/\p.Funcs.length<=80)/\∀ f∈p.Funcs, (1<=f.Code.length/\f.Code.length<=1024)/\∀ x∈f.Code, x.Op=22->0<=x.A/\x.A<p.Funcs.length
open Classical in
noncomputable def Aov (p:NM):Option (List (List Int)):=chk (Awb p) (some (p.Funcs.map λf=>ZB f.Code))
def Adx (a:NM):List D:=[Rc a]
def Ajd (ds:List D):NM:=Tt (ds.getD 0 .top)
theorem AxD (a:NM):Ajd (Adx a)=a:=by simp[Ajd, Adx]
instance:Od Adx Ajd:=⟨AxD⟩
def Arb (b:List (List Int)):D:= .sl (b.map (eL NF))
noncomputable def Anq:Dw.Spec:=NO [] .val Adx Ajd (λa=>Aov a) Arb (λ_=>[])

/-- bounds that are right -/
def BrG (g:List (List Int)) (w c:List Int):Prop:=(1<=g.length/\g.length<=80)/\(∀ s∈g, (s.Pairwise (· <·)/\∀ x∈s, 0<=x/\x<512)/\∀ x∈s, x<g.length)/\(w.length=g.length/\∀ x∈w, 0<=x/\x<=2147483647)/\c.length=g.length /\
  ∀ i, i<g.length->∃ a b s, c[i]? =some a/\w[i]? =some b/\g[i]? =some s/\0<=a/\a<=2147483647/\b<=a/\∀ j∈s, ∃ d, c[j.toNat]? =some d/\d<=a-b
open Classical in
noncomputable def AfJ (g:List (List Int)) (w c:List Int):Option (Int×Bool):=chk (BrG g w c) (some (0, false))
def YP (a:List (List Int)×List Int×List Int):List D:=[.sl (a.1.map (eL NF)), .sl (a.2.1.map NF), .sl (a.2.2.map NF)]
def Aef (ds:List D):List (List Int)×List Int×List Int:=((uL (uL uI)) (ds.getD 0 .top), (uL uI) (ds.getD 1 .top), (uL uI) (ds.getD 2 .top))
theorem AtQ (a:List (List Int)×List Int×List Int):Aef (YP a)=a:=by simp[Aef, YP, OE (u:=uL uI) (en:=eL NF) (λl=>OE (λ_=>rfl) l), OE (u:=uI) (en:=NF) (λ_=>rfl)]
instance:Od YP Aef:=⟨AtQ⟩
def Apq (b:Int×Bool):D:= .tup [.int .i64 b.1, .bool b.2]
noncomputable def Akk:Dw.Spec:=NO [] .ground YP Aef (λa=>AfJ a.1 a.2.1 a.2.2) Apq (λ_=>[])

/-- the table of translations -/
def AaG:List Nat:=[235, 235, 235, 235, 235, 235, 235, 235, 235, 235, 235, 235, 235, 235, 235, 236, 237, 238, 239, 240, 235, 235, 235, 235, 235]
def ZP:Option Unit:=some ()
def Alw (_:Unit):List D:=[]
def Alv (_:List D):Unit:=()
instance:Od Alw Alv:=⟨λ_=>rfl⟩
noncomputable def Yo:Dw.Spec:=NO [] .val Alw Alv (λ_=>ZP) (λ_=> .agg (AaG.map Ajf)) (λ_=>[])
end Go.Proofs.YtcaoepecbgggcaaGreatDoor
