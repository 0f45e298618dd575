/-
  Functions whose contracts are proved by hand: what they compute, as far as it is asked.
-/
import Derived.Test.YtcaoepecbgggcaaGreatDoorDxT
namespace Go.Proofs.YtcaoepecbgggcaaGreatDoor
open Go Go.Dw Go.Proofs

/-- a number among rising ones -/
def Aog (n:Int):List Int->List Int
  | []=>[n]
  | x::r=>if x<n then x::Aog n r else if x=n then x::r else n::x::r
def AnU (n:Int) (s:List Int):List Int:=if 0<=n/\n<512 then Aog n s else s
/-- the functions that some code calls -/
def YY (l:List Lo):List Int:=l.foldl (λs x=>if x.Op=22 then AnU x.A s else s) []
/-- programs whose calls are looked at -/
def Avu (p:Nv):Prop:=(1<=p.Funcs.length/\p.Funcs.length<=80)/\∀ f∈p.Funcs, (1<=f.Code.length/\f.Code.length<=1024)/\∀ x∈f.Code, x.Op=22->0<=x.A/\x.A<p.Funcs.length
open Classical in
noncomputable def Aoa (p:Nv):Option (List (List Int)):=chk (Avu p) (some (p.Funcs.map λf=>YY f.Code))
def Acz (a:Nv):List D:=[PJ a]
def AiE (ds:List D):Nv:=Rr (ds.getD 0 .top)
theorem Axn (a:Nv):AiE (Acz a)=a:=by simp[AiE, Acz]
instance:OW Acz AiE:=⟨Axn⟩
def Aqs (b:List (List Int)):D:= .sl (b.map (eL Av))
noncomputable def Ane:Dw.Spec:=NO [] .val Acz AiE (λa=>Aoa a) Aqs (λ_=>[])

/-- bounds that are right -/
def BrG (g:List (List Int)) (w c:List Int):Prop:=(1<=g.length/\g.length<=80)/\(∀ s∈g, (s.Pairwise (· <·)/\∀ x∈s, 0<=x/\x<512)/\∀ x∈s, x<g.length)/\(w.length=g.length/\∀ x∈w, 0<=x/\x<=2147483647)/\c.length=g.length /\
  ∀ i, i<g.length->∃ a b s, c[i]? =some a/\w[i]? =some b/\g[i]? =some s/\0<=a/\a<=2147483647/\b<=a/\∀ j∈s, ∃ d, c[j.toNat]? =some d/\d<=a-b
open Classical in
noncomputable def AeR (g:List (List Int)) (w c:List Int):Option (Int×Bool):=chk (BrG g w c) (some (0, false))
def Ys (a:List (List Int)×List Int×List Int):List D:=[.sl (a.1.map (eL Av)), .sl (a.2.1.map Av), .sl (a.2.2.map Av)]
def Adi (ds:List D):List (List Int)×List Int×List Int:=((uL (uL uI)) (ds.getD 0 .top), (uL uI) (ds.getD 1 .top), (uL uI) (ds.getD 2 .top))
theorem AsI (a:List (List Int)×List Int×List Int):Adi (Ys a)=a:=by simp[Adi, Ys, Qe (u:=uL uI) (en:=eL Av) (λl=>Qe (λ_=>rfl) l), Qe (u:=uI) (en:=Av) (λ_=>rfl)]
instance:OW Ys Adi:=⟨AsI⟩
def Apa (b:Int×Bool):D:= .tup [.int .i64 b.1, .bool b.2]
noncomputable def Akb:Dw.Spec:=NO [] .ground Ys Adi (λa=>AeR a.1 a.2.1 a.2.2) Apa (λ_=>[])

/-- the table of translations -/
def Aae:List Nat:=[235, 235, 235, 235, 235, 235, 235, 235, 235, 235, 235, 235, 235, 235, 235, 236, 237, 238, 239, 240, 235, 235, 235, 235, 235]
def Zk:Option Unit:=some ()
def Alg (_:Unit):List D:=[]
def Alf (_:List D):Unit:=()
instance:OW Alg Alf:=⟨λ_=>rfl⟩
noncomputable def XS:Dw.Spec:=NO [] .val Alg Alf (λ_=>Zk) (λ_=> .agg (Aae.map AiG)) (λ_=>[])
end Go.Proofs.YtcaoepecbgggcaaGreatDoor
