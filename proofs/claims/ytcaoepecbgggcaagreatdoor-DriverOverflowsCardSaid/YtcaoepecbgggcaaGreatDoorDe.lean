/-
 The automatic steps once more: a standing fact is used only when asked for.
-/
import Derived.Test.YtcaoepecbgggcaaGreatDoorDc
namespace Go.Dw
open Go Go.Proofs
theorem zSt' {n:Nat} (c:Ct n) {p q:Prop} (hq:q) (f:Ct n->Hid q->p:=by
 intro c h
 repeat1' (
  replace c:=Ct.dec c
  first
  | ((with_reducible refine KH ?_);refine LV rfl ?_)
  | ((with_reducible refine NA ?_);refine MK rfl rfl ?_)
  | with_reducible refine LU ?_
  | ((with_reducible refine Mr ?_);first|refine Kz rfl rfl ?_|refine Jh rfl rfl ?_)
  | ((with_reducible refine KJ ?_);first|((with_reducible refine DU ?_);refine KN c ?_ ?_;(· rfl);refine EC rfl rfl rfl (Dd (by assumption)) rfl ?_)|refine EC rfl rfl rfl rfl rfl ?_|refine HU rfl rfl rfl ?_|(refine KN c ?_ ?_;(· rfl);refine EC rfl rfl rfl (Dd (by assumption)) rfl ?_))
  | ((with_reducible refine Nc ?_);first|((with_reducible refine Dr ?_);first|refine PQ λhq=>It rfl rfl rfl rfl (by first|exact hq|exact⟨rfl,hq⟩) ?_|refine PQ λhq=>EU rfl rfl rfl rfl hq ?_)|refine It rfl rfl rfl rfl (by first|exact rfl|exact trivial|assumption|decide|exact⟨rfl,by assumption⟩|exact⟨rfl,by decide⟩) ?_|refine EU rfl rfl rfl rfl trivial ?_)
  | with_reducible refine MP ?_
  | with_reducible refine MN ?_
  | with_reducible refine LW ?_
  | ((with_reducible refine Nb ?_);first|refine LJ rfl rfl ?_|((with_reducible refine Dr ?_);refine PQ λhq=>HK rfl rfl rfl hq ?_)|refine Jp inferInstance rfl rfl ?_|refine Jg rfl rfl ?_|refine HM (by first|rfl|simp) rfl rfl rfl ?_|refine Jf (by first|rfl|simp) rfl rfl rfl ?_|refine Hp rfl rfl rfl ?_)
  | with_reducible refine FY ?_
  | with_reducible refine HS ?_
  | with_reducible refine Hy ?_
  | with_reducible refine KB ?_
  | with_reducible refine LY ?_
  | with_reducible refine MO ?_
  | with_reducible refine LX ?_
  | with_reducible refine HQ ?_
  | with_reducible refine HR ?_
  | with_reducible refine Hw ?_
  | with_reducible refine Ht ?_
  | with_reducible refine Hx ?_
  | with_reducible refine GB ?_
  | with_reducible refine Hv ?_
  | ((with_reducible refine NC ?_);refine Hu rfl ?_)
  | ((with_reducible refine ND ?_);refine Gz rfl ?_)
  | ((with_reducible refine Mp ?_);first|refine Hz rfl ?_|refine GC rfl ?_)
  | ((with_reducible refine Mv ?_);first|refine Gw rfl rfl rfl rfl ?_|refine FX rfl rfl rfl rfl ?_)
  | ((with_reducible refine GY ?_);refine KN c ?_ ?_;(· rfl);(first|refine Gs rfl rfl rfl rfl rfl (by assumption) ?_ ?_ rfl ?_|refine IF rfl rfl rfl rfl rfl (by assumption) ?_ ?_ ?_|refine IE rfl rfl rfl rfl rfl (by assumption) ?_ ?_ rfl ?_|refine HF rfl rfl rfl rfl rfl (by assumption) ?_ ?_ ?_|refine ID rfl rfl rfl rfl rfl (by assumption) ?_ ?_ ?_);(· simp);(· (repeat' first|exact⟨rfl,(by first|rfl|(simp only[NP];rfl)|(simp only[NR];rfl)|(simp only[NP,NR];rfl))⟩|refine exP ?_|refine exU ?_|apply Exists.intro|(dsimp only;exact⟨rfl,(by first|rfl|(simp only[NP];rfl)|(simp only[NR];rfl)|(simp only[NP,NR];rfl))⟩))))
  | ((with_reducible refine GY ?_);((with_reducible refine Dr ?_);first|refine PQ λhq=>Ji rfl rfl rfl rfl rfl (by first|rfl|simp) rfl hq rfl ?_|refine PQ λhq=>KA rfl rfl rfl rfl rfl (by first|rfl|simp) rfl hq rfl ?_|refine PQ λhq=>Hq rfl rfl rfl rfl rfl (by first|rfl|simp) rfl hq (by exact FL _) rfl ?_))
  | ((with_reducible refine Nk ?_);refine LO rfl rfl rfl ?_)
  | ((with_reducible refine Nm ?_);first|refine Jj rfl rfl ?_|refine HO rfl rfl ?_|refine HN rfl rfl ?_|refine HP rfl rfl ?_)
  | ((with_reducible refine KI ?_);first|((with_reducible refine DU ?_);refine KN c ?_ ?_;(· rfl);refine Db rfl rfl rfl (by assumption) rfl ?_)|((with_reducible refine Dr ?_);refine PQ λhq=>Adw (by first|rfl|simp) rfl rfl rfl rfl hq ?_)|(refine KN c ?_ ?_;(· rfl);refine Db rfl rfl rfl (by assumption) rfl ?_))
  | ((with_reducible refine NB ?_);refine ML rfl rfl rfl rfl trivial ?_)
  | ((with_reducible refine Nf ?_);refine LL rfl rfl rfl rfl rfl ?_)
  | ((with_reducible refine Nr ?_);refine LS rfl ?_)
  | ((with_reducible refine MA ?_);first|refine MX rfl rfl rfl rfl rfl rfl rfl rfl rfl ?_|refine MY rfl rfl rfl rfl rfl rfl rfl rfl rfl (by repeat' first|exact EvL.nil rfl|apply EvL.cons rfl) ?_|(refine KN c ?_ ?_;(· rfl);refine Yt rfl rfl rfl rfl rfl rfl rfl (by simp) (by assumption) rfl rfl rfl rfl rfl ?_))
  | ((with_reducible refine KM ?_);first|refine IC rfl rfl rfl rfl rfl (by repeat' first|exact EvL.nil rfl|apply EvL.cons rfl) ?_|refine KU rfl rfl rfl (by repeat' first|exact EvL.nil rfl|apply EvL.cons rfl) ?_|(refine KN c ?_ ?_;(· rfl);refine IC rfl rfl rfl (Dd (by assumption)) rfl (by repeat' first|exact EvL.nil rfl|apply EvL.cons rfl) ?_))
  | ((with_reducible refine Mo ?_);refine KO inferInstance rfl rfl rfl (by simp) rfl rfl rfl ?_)
  | ((with_reducible refine Na ?_);((with_reducible refine Dr ?_);refine PQ λhq=>Akc _ _ _ rfl rfl rfl rfl rfl rfl rfl (by first|(simp;done)|(simp;omega)) (by first|rfl|exact Acm _ _ rfl|exact Acm _ _ (by simp)|exact AjT _ _ _|simp[List.map_take]) rfl rfl (by simp) (by first|rfl|exact Yn _ _ rfl|exact Yn _ _ (by simp)) (λ_=>rfl) rfl hq ?_))
  | ((with_reducible refine Nd ?_);refine MU rfl (by repeat' first|apply EvP.cons rfl|exact EvP.nil rfl) rfl (by repeat' first|exact EvL.nil rfl|apply EvL.cons rfl) ?_)
  | ((with_reducible refine Nh ?_);refine LM rfl rfl ?_)
  | ((with_reducible refine Nq ?_);((with_reducible refine Dr ?_);refine PQ λhq=>MW inferInstance rfl rfl rfl rfl hq rfl ?_))
  | ((with_reducible refine Ll ?_);refine JR rfl rfl rfl ?_)
  | ((with_reducible refine Mq ?_);refine Mf rfl rfl rfl ?_)
  | ((with_reducible refine Mt ?_);refine Mg rfl rfl rfl (by repeat' first|exact EvL.nil rfl|apply EvL.cons rfl) ?_)
  | ((with_reducible refine Nj ?_);first|refine KQ rfl rfl rfl ?_|refine KT rfl rfl rfl ?_)
  | ((with_reducible refine Ni ?_);refine LN rfl rfl rfl rfl (by repeat' first|exact trivial|refine⟨rfl,?_⟩) rfl ?_)
  | ((with_reducible refine Nn ?_);refine LP rfl rfl rfl ?_)
  | ((with_reducible refine Np ?_);refine LQ rfl rfl rfl ?_)
  | ((with_reducible refine Ns ?_);((with_reducible refine Dr ?_);first|refine PQ λhq=>Gx rfl rfl rfl (λ_=>rfl) rfl hq ?_|refine PQ λhq=>Gy rfl rfl rfl (λ_=>rfl) rfl hq ?_|refine PQ λhq=>AhI (by first|rfl|simp) rfl rfl rfl rfl rfl hq ?_|refine PQ λhq=>AhJ (by first|rfl|simp) rfl rfl rfl rfl rfl hq ?_|refine PQ λhq=>Jk rfl rfl rfl rfl (λ_=>rfl) rfl hq ?_))
  | ((with_reducible refine Mu ?_);refine Hr (by kernel_rfl) ?_)
  )
 exact h.h):p:=f c ⟨hq⟩
theorem zSt (n:Nat) {p q:Prop} (hq:q) (f:Ct n->Hid q->p:=by intro c h;exact zSt' c h.h):p:=f ⟨⟩ ⟨hq⟩
theorem zB {p:Prop} (h:p:=by
 repeat' first
 | ((with_reducible refine KH ?_);(with_reducible refine Ng ?_);refine Tz rfl ?_ ?_)
 | ((with_reducible refine KJ ?_);first|((with_reducible refine DU ?_);refine OQ λq hq=>EC rfl rfl rfl (Dd hq) rfl ?_)|refine EC rfl rfl rfl rfl rfl ?_|refine HU rfl rfl rfl ?_|refine EC rfl rfl rfl (Dd (by assumption)) rfl ?_)
 | ((with_reducible refine Mp ?_);refine PX rfl ?_ ?_)
 | ((with_reducible refine KI ?_);first|((with_reducible refine DU ?_);refine OQ λq hq=>Db rfl rfl rfl hq rfl ?_)|((with_reducible refine Dr ?_);refine PQ λhq=>Adw (by first|rfl|simp) rfl rfl rfl rfl hq ?_)|refine Db rfl rfl rfl (by assumption) rfl ?_)
 | ((with_reducible refine GY ?_);(with_reducible refine DU ?_);(first|refine Gr rfl rfl rfl rfl rfl ?_ ?_ (λ_=>rfl) λ_ _=>?_|refine IB rfl rfl rfl rfl rfl ?_ ?_ λ_ _=>?_|refine IA rfl rfl rfl rfl rfl ?_ ?_ (λ_=>rfl) λ_ _=>?_|refine HE rfl rfl rfl rfl rfl ?_ ?_ λ_ _=>?_|refine Iz rfl rfl rfl rfl rfl ?_ ?_ λ_ _=>?_);(· simp);(· (repeat' first|exact⟨rfl,(by first|rfl|(simp only[NP];rfl)|(simp only[NR];rfl)|(simp only[NP,NR];rfl))⟩|refine exP ?_|refine exU ?_|apply Exists.intro|(dsimp only;exact⟨rfl,(by first|rfl|(simp only[NP];rfl)|(simp only[NR];rfl)|(simp only[NP,NR];rfl))⟩))))
 | ((with_reducible refine MA ?_);(with_reducible refine DU ?_);refine OQ λq hq=>Yt rfl rfl rfl rfl rfl rfl rfl (by simp) hq rfl rfl rfl rfl rfl ?_)
 | ((with_reducible refine KM ?_);(with_reducible refine DU ?_);refine OQ λq hq=>IC rfl rfl rfl (Dd hq) rfl (by repeat' first|exact EvL.nil rfl|apply EvL.cons rfl) ?_)
 | with_reducible refine MV ?_
 | with_reducible refine Gq ?_
 | with_reducible refine HD ?_
 | with_reducible refine Mh ?_
 | ((with_reducible refine Nl ?_);first|refine KP (by assumption) rfl ?_ ?_|refine AdJ ?_ ?_)
 | ((with_reducible refine Nz ?_ ?_);(· exact rfl))
 | with_reducible refine exP ?_
 | with_reducible refine exU ?_
 | with_reducible apply Exists.intro
 | refine zSt 999 ?_
 | refine zSt 1 ?_
 | ((with_reducible refine Mz ?_);exact Abm rfl (by first|(simp;done)|(simp;omega)|rfl|(simp[Pn,Pc];done)) (by first|rfl|(simp only[NP];rfl)|(simp only[NR];rfl)|(simp only[NP,NR];rfl)) rfl (by first|(simp;done)|(simp;omega)|rfl|(simp[Pn,Pc];done)) (by first|rfl|(simp only[NP];rfl)|(simp only[NR];rfl)|(simp only[NP,NR];rfl)))
 | ((with_reducible refine Lm ?_);exact Qt rfl (by first|(simp;done)|(simp;omega)|rfl|(simp[Pn,Pc];done)) (by first|rfl|(simp only[NP];rfl)|(simp only[NR];rfl)|(simp only[NP,NR];rfl)) rfl (by first|(simp;done)|(simp;omega)|rfl|(simp[Pn,Pc];done)) (by first|rfl|(simp only[NP];rfl)|(simp only[NR];rfl)|(simp only[NP,NR];rfl)) (by decide))
 | ((with_reducible refine JA ?_);exact IX rfl (by first|(simp;done)|(simp;omega)|rfl|(simp[Pn,Pc];done)) (by first|rfl|(simp only[NP];rfl)|(simp only[NR];rfl)|(simp only[NP,NR];rfl)) rfl (by first|(simp;done)|(simp;omega)|rfl|(simp[Pn,Pc];done)) (by first|rfl|(simp only[NP];rfl)|(simp only[NR];rfl)|(simp only[NP,NR];rfl)))
 | ((with_reducible refine IP ?_);exact FW rfl (by first|(simp;done)|(simp;omega)|rfl|(simp[Pn,Pc];done)) (by first|rfl|(simp only[NP];rfl)|(simp only[NR];rfl)|(simp only[NP,NR];rfl)) rfl (by first|(simp;done)|(simp;omega)|rfl|(simp[Pn,Pc];done)) (by first|rfl|(simp only[NP];rfl)|(simp only[NR];rfl)|(simp only[NP,NR];rfl)) (by decide))
 | ((with_reducible refine Mx ?_);exact Lz rfl (by first|(simp;done)|(simp;omega)|rfl|(simp[Pn,Pc];done)) (by first|rfl|(simp only[NP];rfl)|(simp only[NR];rfl)|(simp only[NP,NR];rfl)) rfl (by first|(simp;done)|(simp;omega)|rfl|(simp[Pn,Pc];done)) rfl (by first|(simp;done)|(simp;omega)|rfl|(simp[Pn,Pc];done)) (congrArg D.sl (Yn _ _ (by first|rfl|simp))) rfl)
 | ((with_reducible refine Mw ?_);exact Ly rfl (by first|(simp;done)|(simp;omega)|rfl|(simp[Pn,Pc];done)) rfl (by first|(simp;done)|(simp;omega)|rfl|(simp[Pn,Pc];done)) (by first|rfl|(simp only[NP];rfl)|(simp only[NR];rfl)|(simp only[NP,NR];rfl)) rfl (by first|(simp;done)|(simp;omega)|rfl|(simp[Pn,Pc];done)) (by first|rfl|(simp only[NP];rfl)|(simp only[NR];rfl)|(simp only[NP,NR];rfl)))
 | ((with_reducible refine My ?_);exact IY (by decide) (by decide) rfl (by first|(simp;done)|(simp;omega)|rfl|(simp[Pn,Pc];done)) rfl (by first|(simp;done)|(simp;omega)|rfl|(simp[Pn,Pc];done)) rfl (by first|(simp;done)|(simp;omega)|rfl|(simp[Pn,Pc];done)) rfl (by first|(simp;done)|(simp;omega)|rfl|(simp[Pn,Pc];done)) (by first|rfl|(simp only[NP];rfl)|(simp only[NR];rfl)|(simp only[NP,NR];rfl)) rfl (by first|(simp;done)|(simp;omega)|rfl|(simp[Pn,Pc];done)) rfl)
 | exact trivial
 | refine⟨rfl,?_⟩
 | refine⟨AcM rfl (by simp),?_⟩
 | refine⟨Oq rfl,?_⟩
 | refine⟨CT (Ua _ rfl),?_⟩
 | refine⟨CT (YT rfl (by first|rfl|simp) rfl (by first|exact .head _|exact .tail _ (.head _)|exact .tail _ (.tail _ (.head _))|exact .tail _ (.tail _ (.tail _ (.head _))))),?_⟩
 | refine⟨CT (El rfl (by omega) rfl (by first|exact .head _|exact .tail _ (.head _)|exact .tail _ (.tail _ (.head _))|exact .tail _ (.tail _ (.tail _ (.head _))))),?_⟩
 | refine⟨Vk rfl (by repeat' first|exact trivial|refine⟨Oz rfl,?_⟩|refine⟨Ua _ rfl,?_⟩|refine⟨YT rfl (by first|rfl|simp) rfl (by first|exact .head _|exact .tail _ (.head _)|exact .tail _ (.tail _ (.head _))|exact .tail _ (.tail _ (.tail _ (.head _)))),?_⟩|refine⟨El rfl (by omega) rfl (by first|exact .head _|exact .tail _ (.head _)|exact .tail _ (.tail _ (.head _))|exact .tail _ (.tail _ (.tail _ (.head _)))),?_⟩),?_⟩
 | refine⟨.inl rfl,?_⟩
 | refine⟨.inr ⟨_,_,_,_,rfl,rfl,rfl,rfl,Vk rfl (by repeat' first|exact trivial|refine⟨Oz rfl,?_⟩|refine⟨Ua _ rfl,?_⟩|refine⟨YT rfl (by first|rfl|simp) rfl (by first|exact .head _|exact .tail _ (.head _)|exact .tail _ (.tail _ (.head _))|exact .tail _ (.tail _ (.tail _ (.head _)))),?_⟩|refine⟨El rfl (by omega) rfl (by first|exact .head _|exact .tail _ (.head _)|exact .tail _ (.tail _ (.head _))|exact .tail _ (.tail _ (.tail _ (.head _)))),?_⟩)⟩,?_⟩
 | refine⟨.inr ⟨_,_,_,_,rfl,rfl,rfl,rfl,CT (Ua _ rfl)⟩,?_⟩
 | refine⟨.inr ⟨_,_,_,_,rfl,rfl,rfl,rfl,CT (YT rfl (by first|rfl|simp) rfl (by first|exact .head _|exact .tail _ (.head _)|exact .tail _ (.tail _ (.head _))|exact .tail _ (.tail _ (.tail _ (.head _)))))⟩,?_⟩
 ):p:=h
end Go.Dw
