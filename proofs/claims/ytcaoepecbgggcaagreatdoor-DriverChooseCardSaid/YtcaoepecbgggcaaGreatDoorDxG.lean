/-
  Functions whose contracts are proved by hand: what they compute, as far as it is asked.
-/
import Derived.Test.YtcaoepecbgggcaaGreatDoorDxT
namespace Go.Proofs.YtcaoepecbgggcaaGreatDoor
open Go Go.Dw Go.Proofs

/-- a number among rising ones -/
def AwD (n:Int):List Int->List Int
  | []=>[n]
  | x::r=>if x<n then x::AwD n r else if x=n then x::r else n::x::r
def AtY (n:Int) (s:List Int):List Int:=if 0<=n/\n<512 then AwD n s else s
/-- the functions that some code calls -/
def AdY (l:List Lo):List Int:=l.foldl (λs x=>if x.Op=22 then AtY x.A s else s) []
/-- programs whose calls are looked at -/
def Awc (p:NG):Prop:=(1<=p.Funcs.length/\p.Funcs.length<=80)/\∀ f∈p.Funcs, (1<=f.Code.length/\f.Code.length<=1024)/\∀ x∈f.Code, x.Op=22->0<=x.A/\x.A<p.Funcs.length
open Classical in
noncomputable def Asq (p:NG):Option (List (List Int)):=chk (Awc p) (some (p.Funcs.map λf=>AdY f.Code))
def Ahx (a:NG):List D:=[Ps a]
def AnB (ds:List D):NG:=Rn (ds.getD 0 .top)
theorem Azx (a:NG):AnB (Ahx a)=a:=by simp[AnB, Ahx]
instance:Oc Ahx AnB:=⟨Azx⟩
def Auf (b:List (List Int)):D:= .sl (b.map (eL NA))
noncomputable def AoT:Dw.Spec:=NI [] .val Ahx AnB (λa=>Asq a) Auf (λ_=>[])

/-- bounds that are right -/
def BrG (g:List (List Int)) (w c:List Int):Prop:=(1<=g.length/\g.length<=80)/\(∀ s∈g, (s.Pairwise (· <·)/\∀ x∈s, 0<=x/\x<512)/\∀ x∈s, x<g.length)/\(w.length=g.length/\∀ x∈w, 0<=x/\x<=2147483647)/\c.length=g.length /\
  ∀ i, i<g.length->∃ a b s, c[i]? =some a/\w[i]? =some b/\g[i]? =some s/\0<=a/\a<=2147483647/\b<=a/\∀ j∈s, ∃ d, c[j.toNat]? =some d/\d<=a-b
open Classical in
noncomputable def AmC (g:List (List Int)) (w c:List Int):Option (Int×Bool):=chk (BrG g w c) (some (0, false))
def AaO (a:List (List Int)×List Int×List Int):List D:=[.sl (a.1.map (eL NA)), .sl (a.2.1.map NA), .sl (a.2.2.map NA)]
def Aiy (ds:List D):List (List Int)×List Int×List Int:=((uL (uL uI)) (ds.getD 0 .top), (uL uI) (ds.getD 1 .top), (uL uI) (ds.getD 2 .top))
theorem Awh (a:List (List Int)×List Int×List Int):Aiy (AaO a)=a:=by simp[Aiy, AaO, Oy (u:=uL uI) (en:=eL NA) (λl=>Oy (λ_=>rfl) l), Oy (u:=uI) (en:=NA) (λ_=>rfl)]
instance:Oc AaO Aiy:=⟨Awh⟩
def AsW (b:Int×Bool):D:= .tup [.int .i64 b.1, .bool b.2]
noncomputable def AlE:Dw.Spec:=NI [] .ground AaO Aiy (λa=>AmC a.1 a.2.1 a.2.2) AsW (λ_=>[])

/-- the table of translations -/
def Adr:List Nat:=[235, 235, 235, 235, 235, 235, 235, 235, 235, 235, 235, 235, 235, 235, 235, 236, 237, 238, 239, 240, 235, 235, 235, 235, 235]
def Yb:Option Unit:=some ()
def Aqg (_:Unit):List D:=[]
def Aqf (_:List D):Unit:=()
instance:Oc Aqg Aqf:=⟨λ_=>rfl⟩
noncomputable def VL:Dw.Spec:=NI [] .val Aqg Aqf (λ_=>Yb) (λ_=> .agg (Adr.map AnD)) (λ_=>[])
end Go.Proofs.YtcaoepecbgggcaaGreatDoor
