/-
  Functions whose contracts are proved by hand: what they compute, as far as it is asked.
-/
import Derived.Test.YtmmchhpdaogopaaGreatDoorDxT
namespace Go.Proofs.YtmmchhpdaogopaaGreatDoor
open Go Go.Dw Go.Proofs

/-- a number among rising ones -/
def Ame (n:Int):List Int->List Int
  | []=>[n]
  | x::r=>if x<n then x::Ame n r else if x=n then x::r else n::x::r
def AlX (n:Int) (s:List Int):List Int:=if 0<=n/\n<512 then Ame n s else s
/-- the functions that some code calls -/
def Yp (l:List NJ):List Int:=l.foldl (λs x=>if x.Op=22 then AlX x.A s else s) []
/-- programs whose calls are looked at -/
def AsT (p:NL):Prop:=(1<=p.Funcs.length/\p.Funcs.length<=80)/\∀ f∈p.Funcs, (1<=f.Code.length/\f.Code.length<=1024)/\∀ x∈f.Code, x.Op=22->0<=x.A/\x.A<p.Funcs.length
open Classical in
noncomputable def Amb (p:NL):Option (List (List Int)):=chk (AsT p) (some (p.Funcs.map λf=>Yp f.Code))
def Abs (a:NL):List D:=[PQ a]
def AgR (ds:List D):NL:=QM (ds.getD 0 .top)
theorem AuL (a:NL):AgR (Abs a)=a:=by simp[AgR, Abs]
instance:PT Abs AgR:=⟨AuL⟩
def Aol (b:List (List Int)):D:= .sl (b.map (eL Av))
noncomputable def AkZ:Dw.Spec:=Ow [] .val Abs AgR (λa=>Amb a) Aol (λ_=>[])

/-- bounds that are right -/
def BrG (g:List (List Int)) (w c:List Int):Prop:=(1<=g.length/\g.length<=80)/\(∀ s∈g, (s.Pairwise (· <·)/\∀ x∈s, 0<=x/\x<512)/\∀ x∈s, x<g.length)/\(w.length=g.length/\∀ x∈w, 0<=x/\x<=2147483647)/\c.length=g.length /\
  ∀ i, i<g.length->∃ a b s, c[i]? =some a/\w[i]? =some b/\g[i]? =some s/\0<=a/\a<=2147483647/\b<=a/\∀ j∈s, ∃ d, c[j.toNat]? =some d/\d<=a-b
open Classical in
noncomputable def AdK (g:List (List Int)) (w c:List Int):Option (Int×Bool):=chk (BrG g w c) (some (0, false))
def XL (a:List (List Int)×List Int×List Int):List D:=[.sl (a.1.map (eL Av)), .sl (a.2.1.map Av), .sl (a.2.2.map Av)]
def Acd (ds:List D):List (List Int)×List Int×List Int:=((uL (uL uI)) (ds.getD 0 .top), (uL uI) (ds.getD 1 .top), (uL uI) (ds.getD 2 .top))
theorem Aqk (a:List (List Int)×List Int×List Int):Acd (XL a)=a:=by simp[Acd, XL, QL (u:=uL uI) (en:=eL Av) (λl=>QL (λ_=>rfl) l), QL (u:=uI) (en:=Av) (λ_=>rfl)]
instance:PT XL Acd:=⟨Aqk⟩
def AmW (b:Int×Bool):D:= .tup [.int .i64 b.1, .bool b.2]
noncomputable def Aif:Dw.Spec:=Ow [] .ground XL Acd (λa=>AdK a.1 a.2.1 a.2.2) AmW (λ_=>[])

/-- the table of translations -/
def Zl:List Nat:=[160, 160, 160, 160, 160, 160, 160, 160, 160, 160, 160, 160, 160, 160, 160, 161, 162, 163, 164, 165, 160, 160, 160, 160, 160]
def Yy:Option Unit:=some ()
def Ajo (_:Unit):List D:=[]
def Ajn (_:List D):Unit:=()
instance:PT Ajo Ajn:=⟨λ_=>rfl⟩
noncomputable def Xq:Dw.Spec:=Ow [] .val Ajo Ajn (λ_=>Yy) (λ_=> .agg (Zl.map AgT)) (λ_=>[])
end Go.Proofs.YtmmchhpdaogopaaGreatDoor
