/- Parts of the proof. No condition. -/
import Derived.Test.YtfnopgdcaanaiaaGreatDoorT30
set_option linter.all false
set_option maxRecDepth 100000
set_option maxHeartbeats 8000000
namespace Go.Proofs.YtfnopgdcaanaiaaGreatDoor
section
open Go.RowKit Go.Shelf
attribute [local go_sem] Oper.semAt_some
theorem Np.Vw(l:List Np.Span):(Np.pM l).length<=l.length+1:=by
 have:=Np.KR l ([],0)
 unfold Np.pM;split <;> simp at this |- <;> omega
theorem Np.mX{l:List Np.Span}(h:Np.js l=true):Np.SpV l:=by
 unfold Np.js at h;rw[Bool.and_eq_true] at h;have key:∀ (l:List Np.Span) (p:Option Int),Np.ix p l=true->Np.SpV l/\∀ u,p=some u->∀ s∈l,u<s.frm:=by
  intro l
  induction l with
  | nil=>exact λp _=>⟨⟨Np.ApartS.nil,λs hs=>(by cases hs),λs hs=>(by cases hs)⟩,λu _ s hs=>(by cases hs)⟩
  | cons s r ih=>
   intro p hp;unfold Np.ix at hp;rw[Bool.and_eq_true] at hp;obtain⟨h1,h2⟩:=ih _ hp.2;have hs:(0<=s.frm/\s.frm<s.til/\s.til<=20000000)/\∀ u,p=some u->u<s.frm:=by
    have h3:=hp.1
    cases p with
    | none=>simp[Np.fP] at h3;exact⟨by omega,λu hu=>(by cases hu)⟩
    | some u=>simp[Np.fP] at h3;exact⟨by omega,λu' hu=>(by cases hu;omega)⟩
   refine⟨⟨⟨λx hx=>?_,List.pairwise_cons.2 ⟨λx hx=>h2 _ rfl x hx,h1.ap.apart⟩⟩,λx hx=>?_,λx hx=>?_⟩,λu hu x hx=>?_⟩
   ·rcases List.mem_cons.1 hx with rfl | hx
    ·exact hs.1.2.1
    ·exact h1.ap.full x hx
   ·rcases List.mem_cons.1 hx with rfl | hx
    ·exact hs.1.1
    ·exact h1.lo x hx
   ·rcases List.mem_cons.1 hx with rfl | hx
    ·exact hs.1.2.2
    ·exact h1.hi x hx
   ·rcases List.mem_cons.1 hx with rfl | hx
    ·exact hs.2 u hu
    ·have h3:=hs.2 u hu;have h4:=h2 _ rfl x hx;omega
 exact (key l none h.2).1
end
end Go.Proofs.YtfnopgdcaanaiaaGreatDoor
