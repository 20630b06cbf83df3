/- Parts of the proof. No condition. -/
import Derived.Shelf.SlSortCmp.NoneTotal
import Derived.Laws.OwnMore
import Derived.Test.YtbfbobfbgabjiaaGreatDoorP06
set_option linter.all false
set_option maxRecDepth 100000
set_option maxHeartbeats 8000000
namespace Go.Proofs.YtbfbobfbgabjiaaGreatDoor
open Go.Proofs.Tryz
section
open Go.RowKit Go.Shelf
section
variable {α:Type}
def kr(p:α->Bool):List α->Int
 | []=>-1
 | x::xs=>if p x then 0 else if kr p xs = -1 then -1 else kr p xs+1
theorem IB(p:α->Bool)(xs:List α)(h:∀ x∈xs,p x=false):kr p xs = -1:=by
 induction xs with
 | nil=>rfl
 | cons x r ih=>rw[kr,Qc (by simp[h x (by simp)]),Qb (ih (λy hy=>h y (by simp[hy])))]
theorem IA(p:α->Bool)(xs:List α)(k:Nat)(hk:k<xs.length)(h:∀ x∈xs.take k,p x=false)(hx:p xs[k]=true):kr p xs=k:=by
 induction xs generalizing k with
 | nil=>simp at hk
 | cons x r ih=>
  cases k with
  | zero=>simp at hx; simp[kr,hx]
  | succ k=>
   have h0:p x=false:=h x (by simp)
   have:=ih k (by simpa using hk) (λy hy=>h y (by simp[hy])) (by simpa using hx)
   rw[kr,Qc (by simp[h0]),Qc (by omega),this];simp
theorem NI(p:α->Bool)(xs:List α):decide (0<=kr p xs)=xs.any p:=by
 induction xs with
 | nil=>rfl
 | cons x r ih=>
  rw[kr];by_cases h:p x=true
  ·simp[h]
  ·rw[Qc h];have h':p x=false:=by simpa using h
   rw[List.any_cons,h',Bool.false_or,<-ih];split
   ·rename_i e; rw[e]
   ·rename_i e;have : -1<=kr p r:=by
     clear ih h h' e
     induction r with
     | nil=>simp[kr]
     | cons y r ih2=>rw[kr]; split; omega; split <;> omega
    rw[Bool.eq_iff_iff]; simp; omega
def MR(R:World->Nat->List Value->α->Prop)(B:Nat)(w:World)(f:FuncId)(cap:Array Value)(p:α->Bool)(xs:List α):Prop:=
 ∀ (W:World) (x:α) (e0 e1:Value),x∈xs->Below B w W->B<=W.heap.size->R W B [e0,e1] x->Calls prog f (#[.agg #[e0,e1]]++cap) W λe w'=>e = .returned (.bool (p x))/\Below W.heap.size W w'
theorem aaY{R:World->Nat->List Value->α->Prop}(hK:dw R)(f:FuncId)(eg:∀ args w,(callFunc f args).run prog w = .ok (.enter f args) w)(cap:Array Value)(p:α->Bool)(v:Value)(xs:List α)(w:World)(B:Nat)(hB:B<=w.heap.size)(h:SlR R 2 w B v xs)
 (hp:MR R B w f cap p xs) :
 Calls prog 133 #[v,.func (.func f) #[] cap] w λe w'=>e = .returned (.int .i64 (kr p xs))/\Below w.heap.size w w':=by
 have H:=jq h;have HP:=jq hp;obtain⟨A,c,rfl,aV,bi,iF⟩:=h;clear iF hp;go_enter func133,ntmps133;go_wp2_with fail;go_loopw [8] (λi wr=>∃ k:Nat,k<=xs.length/\i = .int .i64 k/\Below w.heap.size w wr/\Hid (∀ x∈xs.take k,p x=false)) (λi _=>xs.length - (intOf i).toNat)
 case atStart=>exact⟨0,jQ _,rfl,vQ _ _,jq (by simp)⟩
 case round=>
  obtain⟨k,hk,rfl,hb,HA⟩:=hrel;by_cases aa:k<xs.length
  ·have bS:=hb.mono hB;obtain⟨A',c',hA',_,_,br⟩:=H.out.keep hK bS
   cases hA'
   obtain⟨b,o,e,rfl,bZ,hlen,hce,hR⟩:=br k _ (aQ aa)
   match e,hlen with
   | [e0,e1],_=>
   have h0:wr.cell? ⟨b,o+k * 2,none⟩=some e0:=hce 0 _ rfl;have h1:wr.cell? ⟨b,o+k * 2+1,none⟩=some e1:=hce 1 _ rfl;have bT:=HP.out wr xs[k] e0 e1 (List.getElem_mem aa) bS (by have:=hb.size; omega) hR;have HC:=jq bT;have bI:=jq hb;clear br hce hR bT bS hb;go_wp2_with (fail);refine HC.out.mono ?_;rintro e w2 ⟨rfl,ab⟩;have al:=jq ab;clear ab;by_cases ck:p xs[k]=true
   ·have HX:=jq ck;go_wp2_with (fail);go_ret;exact⟨iK (IA p xs k aa HA.out HX.out).symm,bI.out.trans (al.out.mono bI.out.size)⟩
   ·have yK:p xs[k]=false:=by simpa using ck
    have HX:=jq yK;clear ck;go_wp2_with (fail);go_roundw
    case rel=>
     refine⟨k+1,by omega,by go_num,bI.out.trans (al.out.mono bI.out.size),jq ?_⟩;rw[fQ aa];intro x hx;rcases List.mem_append.1 hx with h | h
     ·exact HA.out x h
     ·simp at h; subst h; exact HX.out
    case measure=>simp[intOf] <;> omega
  ·go_wp2_with fail;go_ret;exact⟨iK (IB p xs (by have:=HA.out; rwa [kQ (by omega)] at this)).symm,hb⟩
theorem VW{R:World->Nat->List Value->α->Prop}(hK:dw R)(f:FuncId)(eg:∀ args w,(callFunc f args).run prog w = .ok (.enter f args) w)(cap:Array Value)(p:α->Bool)(v:Value)(xs:List α)(w:World)(B:Nat)(hB:B<=w.heap.size)(h:SlR R 2 w B v xs)
 (hp:MR R B w f cap p xs) :
 Calls prog 77 #[v,.func (.func f) #[] cap] w λe w'=>e = .returned (.bool (xs.any p))/\Below w.heap.size w w':=by
 have H:=jq h;have HP:=jq hp;have HE:=jq eg;clear h hp eg;go_enter func77,ntmps77;go_wp2_with (go_at_call 133; refine (aaY hK f HE.out cap p v xs w B hB H.out HP.out).mono ?_; rintro e w' ⟨rfl,hb⟩);go_ret;exact⟨ae (NI p xs),hb⟩
def U1(R:World->Nat->List Value->α->Prop)(B:Nat)(w:World)(f:FuncId)(cap:Array Value)(p:α->Bool)(xs:List α):Prop:=
 ∀ (W:World) (x:α) (e0 e1 e2:Value),x∈xs->Below B w W->B<=W.heap.size->R W B [e0,e1,e2] x->Calls prog f (#[.agg #[e0,e1,e2]]++cap) W λe w'=>e = .returned (.bool (p x))/\Below W.heap.size W w'
theorem aaK{R:World->Nat->List Value->α->Prop}(hK:dw R)(f:FuncId)(eg:∀ args w,(callFunc f args).run prog w = .ok (.enter f args) w)(cap:Array Value)(p:α->Bool)(v:Value)(xs:List α)(w:World)(B:Nat)(hB:B<=w.heap.size)(h:SlR R 3 w B v xs)
 (hp:U1 R B w f cap p xs) :
 Calls prog 68 #[v,.func (.func f) #[] cap] w λe w'=>e = .returned (.int .i64 (kr p xs))/\Below w.heap.size w w':=by
 have H:=jq h;have HP:=jq hp;obtain⟨A,c,rfl,aV,bi,iF⟩:=h;clear iF hp;go_enter func68,ntmps68;go_wp2_with fail;go_loopw [8] (λi wr=>∃ k:Nat,k<=xs.length/\i = .int .i64 k/\Below w.heap.size w wr/\Hid (∀ x∈xs.take k,p x=false)) (λi _=>xs.length - (intOf i).toNat)
 case atStart=>exact⟨0,jQ _,rfl,vQ _ _,jq (by simp)⟩
 case round=>
  obtain⟨k,hk,rfl,hb,HA⟩:=hrel;by_cases aa:k<xs.length
  ·have bS:=hb.mono hB;obtain⟨A',c',hA',_,_,br⟩:=H.out.keep hK bS
   cases hA'
   obtain⟨b,o,e,rfl,bZ,hlen,hce,hR⟩:=br k _ (aQ aa)
   match e,hlen with
   | [e0,e1,e2],_=>
   have h0:wr.cell? ⟨b,o+k * 3,none⟩=some e0:=hce 0 _ rfl;have h1:wr.cell? ⟨b,o+k * 3+1,none⟩=some e1:=hce 1 _ rfl;have h2:wr.cell? ⟨b,o+k * 3+2,none⟩=some e2:=hce 2 _ rfl;have bT:=HP.out wr xs[k] e0 e1 e2 (List.getElem_mem aa) bS (by have:=hb.size; omega) hR;have HC:=jq bT;have bI:=jq hb;clear br hce hR bT bS hb;go_wp2_with (fail);refine HC.out.mono ?_;rintro e w2 ⟨rfl,ab⟩;have al:=jq ab;clear ab;by_cases ck:p xs[k]=true
   ·have HX:=jq ck;go_wp2_with (fail);go_ret;exact⟨iK (IA p xs k aa HA.out HX.out).symm,bI.out.trans (al.out.mono bI.out.size)⟩
   ·have yK:p xs[k]=false:=by simpa using ck
    have HX:=jq yK;clear ck;go_wp2_with (fail);go_roundw
    case rel=>
     refine⟨k+1,by omega,by go_num,bI.out.trans (al.out.mono bI.out.size),jq ?_⟩;rw[fQ aa];intro x hx;rcases List.mem_append.1 hx with h | h
     ·exact HA.out x h
     ·simp at h; subst h; exact HX.out
    case measure=>simp[intOf] <;> omega
  ·go_wp2_with fail;go_ret;exact⟨iK (IB p xs (by have:=HA.out; rwa [kQ (by omega)] at this)).symm,hb⟩
end
def fk(_:World)(_:Nat)(e:List Value)(x:Np.Span):Prop:=e = [.int .i64 x.frm,.int .i64 x.til]
theorem eZ:dw fk:=λ_ _ _ _ _ h _=>h
theorem jd:dN fk:=λ_ _ _ _ _ h _=>h
def Np.ux(l:List Np.Span)(t:Int):Bool:=l.any λs=>decide (s.frm<=t)&&decide (t<s.til)
theorem XM(b:Nat)(t f u:Int)(w:World)(h:w.cell? ⟨b,0,none⟩=some (.int .i64 t)) :
 Calls prog 78 #[.agg #[.int .i64 f,.int .i64 u],.pointer (some ⟨b,0,none⟩)] w λe w'=>e = .returned (.bool (decide (f<=t)&&decide (t<u)))/\Below w.heap.size w w':=by
 have lb:=World.block_lt_of_cell? w _ h;simp only at lb;go_enter func78,ntmps78;go_wp2_with fail
 all_goals
  go_ret;go_light;refine⟨ae ?_,(vQ _ w).alloc (bQ _) _⟩;simp_all <;> (intros; omega)
theorem On(v:Value)(l:List Np.Span)(t:Int)(w:World)(h:SlR fk 2 w w.heap.size v l) :
 Calls prog 31 #[v,.int .i64 t] w λe w'=>e = .returned (.bool (Np.ux l t))/\Below w.heap.size w w':=by
 have H:=jq h;obtain⟨A,c,rfl,aV,bi,iF⟩:=h;clear iF;have cV:∀ o,Below w.heap.size w (w.alloc o):=λo=>(vQ _ w).alloc (bQ _) _;have aw:=jq cV;clear cV;go_enter func31,ntmps31;go_wp2_with fail;refine (VW (R:=fk) eZ 78 (enters_of func78 (by kernel_rfl) rfl) _ (λs=>decide (s.frm<=t)&&decide (t<s.til)) _ l _ _ (bQ _) ?_ ?_).mono ?_
 ·exact (H.out.keep eZ (aw.out _)).more jd (by simp)
 ·intro W x e0 e1 hx hW vK D8;simp only[fk,List.cons.injEq,and_true] at D8;obtain⟨rfl,rfl⟩:=D8;refine XM w.heap.size t x.frm x.til W ?_;rw[hW.cell (by simp)]; go_simp
 ·rintro e w1 ⟨rfl,hb⟩;have HB:=jq hb;clear hb;go_wp2_with fail;go_ret;exact⟨rfl,(aw.out _).trans (HB.out.mono (by simp))⟩
def Np.kS(p:Option Int)(s:Np.Span):Bool:=decide (0<=s.frm)&&(decide (s.frm<s.til)&&(decide (s.til<=20000000)&&(match p with | none=>true | some u=>decide (u<s.frm))))
def Np.nS:Option Int->List Np.Span->Bool
 | _,[]=>true
 | p,s::r=>Np.kS p s&&Np.nS (some s.til) r
def Np.xp(l:List Np.Span):Bool:=decide (l.length<=20000)&&Np.nS none l
def Np.kL(l:List Np.Span):Option Int:=l.getLast?.map (·.til)
theorem FE{l:List Np.Span}{k:Nat}{s:Np.Span}(hs:l[k]?=some s)(h:Np.kS (Np.kL (l.take k)) s=false):Np.nS (Np.kL (l.take k)) (l.drop k)=false:=by
 rw[sQ (cQ.1 hs).1,(cQ.1 hs).2];simp[Np.nS,h]
theorem RA{l:List Np.Span}{k:Nat}{s:Np.Span}(hs:l[k]?=some s)(h:Np.kS (Np.kL (l.take k)) s=true):Np.nS (Np.kL (l.take k)) (l.drop k)=Np.nS (Np.kL (l.take (k+1))) (l.drop (k+1)):=by
 have h1:=(cQ.1 hs);rw[sQ h1.1,h1.2,fQ h1.1,h1.2];rw[Np.nS,h,Bool.true_and];simp[Np.kL]
theorem agZ{l:List Np.Span}{k:Nat}{s:Np.Span}(hs:l[k]?=some s):Np.kL (l.take (k+1))=some s.til:=by
 have h1:=(cQ.1 hs);rw[fQ h1.1,h1.2];simp[Np.kL]
theorem aGX(v:Value)(l:List Np.Span)(w:World)(h:SlR fk 2 w w.heap.size v l) :
 Calls prog 33 #[v] w λe w'=>e = .returned (.bool (Np.xp l))/\Below w.heap.size w w':=by
 have H:=jq h;obtain⟨A,c,rfl,aV,bi,iF⟩:=h;clear iF;by_cases bV:l.length<=20000
 ·have HV:Hid (Np.xp l=Np.nS none l):=jq (by simp[Np.xp,bV]);go_enter func33,ntmps33;go_wp2_with fail;go_loopw [10] (λi wr=>∃ k:Nat,k<=l.length/\i = .int .i64 k/\Below w.heap.size w wr/\Hid (Np.nS none l=Np.nS (Np.kL (l.take k)) (l.drop k))) (λi _=>l.length - (intOf i).toNat)
  case atStart=>exact⟨0,jQ _,rfl,vQ _ _,jq rfl⟩
  case round=>
   obtain⟨k,hk,rfl,hb,HA⟩:=hrel;by_cases aa:k<l.length
   ·obtain⟨A',c',hA',_,_,br⟩:=H.out.keep eZ hb
    cases hA'
    obtain⟨b,o,e,rfl,bZ,hlen,hce,hR⟩:=br k _ (aQ aa);obtain rfl:=hR;have h0:wr.cell? ⟨b,o+k * 2,none⟩=some (.int .i64 l[k].frm):=hce 0 _ rfl;have h1:wr.cell? ⟨b,o+k * 2+1,none⟩=some (.int .i64 l[k].til):=hce 1 _ rfl;have HS:Hid (l[k]?=some l[k]):=jq (aQ aa);have ic:=hb.size;have bI:=jq hb;clear hce hb;have vS:b<wr.heap.size:=by omega
    have pz:(decide (l[k].frm<0)=true)\/(decide (l[k].frm<0)=false/\decide (l[k].til<=l[k].frm)=true)\/(decide (l[k].frm<0)=false/\decide (l[k].til<=l[k].frm)=false/\decide (20000000<l[k].til)=true)\/(decide (l[k].frm<0)=false/\decide (l[k].til<=l[k].frm)=false/\decide (20000000<l[k].til)=false):=by
     simp only[Qa,decide_eq_false_iff_not]; omega
    rcases pz with d1 | ⟨d1,d2⟩ | ⟨d1,d2,d3⟩ | ⟨d1,d2,d3⟩
    ·have HX:Hid (Np.kS (Np.kL (l.take k)) l[k]=false):=jq (by unfold Np.kS; rw[show decide (0<=l[k].frm)=false by simp at d1 |-; omega]; rfl);clear br;go_wp2_with fail;go_quiet (fail);go_wp2_with fail;go_ret;exact⟨ae (by rw[HV.out,HA.out,FE HS.out HX.out]),below_drewN (bI.out.alloc bI.out.size _) _⟩
    ·have HX:Hid (Np.kS (Np.kL (l.take k)) l[k]=false):=jq (by unfold Np.kS; rw[show decide (l[k].frm<l[k].til)=false by simp at d2 |-; omega]; simp);clear br;go_wp2_with fail;go_quiet (fail);go_wp2_with fail;go_ret;exact⟨ae (by rw[HV.out,HA.out,FE HS.out HX.out]),below_drewN (bI.out.alloc bI.out.size _) _⟩
    ·have HX:Hid (Np.kS (Np.kL (l.take k)) l[k]=false):=jq (by unfold Np.kS; rw[show decide (l[k].til<=20000000)=false by simp at d3 |-; omega]; simp);clear br;go_wp2_with fail;go_quiet (fail);go_wp2_with fail;go_ret;exact⟨ae (by rw[HV.out,HA.out,FE HS.out HX.out]),below_drewN (bI.out.alloc bI.out.size _) _⟩
    ·have g1:decide (0<=l[k].frm)=true:=by simp at d1 |-; omega
     have g2:decide (l[k].frm<l[k].til)=true:=by simp at d2 |-; omega
     have g3:decide (l[k].til<=20000000)=true:=by simp at d3 |-; omega
     by_cases bH:0<k
     ·obtain⟨m,rfl⟩:∃ m,k=m+1:=⟨k - 1,by omega⟩;obtain⟨b',o',e',hb',_,_,lq,hR'⟩:=br m _ (aQ (by omega))
      cases hb'
      obtain rfl:=hR';have p1:wr.cell? ⟨b,o+m * 2+1,none⟩=some (.int .i64 (l[m]'(by omega)).til):=lq 1 _ rfl;have D6:Np.kL (l.take (m+1))=some (l[m]'(by omega)).til:=agZ (aQ (by omega));have ju:decide ((0:Int)<((m+1:Nat):Int))=true:=by simp
      have Ez:(((m+1:Nat):Int) - 1)=(m:Int):=by omega
      by_cases EH:l[m+1].frm<=(l[m]'(by omega)).til
      ·have d4:decide (l[m+1].frm<=(l[m]'(by omega)).til)=true:=by simpa using EH
       have HX:Hid (Np.kS (Np.kL (l.take (m+1))) l[m+1]=false):=jq (by rw[D6]; simp only[Np.kS,g1,g2,g3,Bool.true_and]; simp; omega);clear br lq D6 EH g1 g2 g3;go_wp2_with fail;go_quiet (fail);go_wp2_with fail;go_ret;exact⟨ae (by rw[HV.out,HA.out,FE HS.out HX.out]),below_drewN (bI.out.alloc bI.out.size _) _⟩
      ·have d4:decide (l[m+1].frm<=(l[m]'(by omega)).til)=false:=by simpa using EH
       have HX:Hid (Np.kS (Np.kL (l.take (m+1))) l[m+1]=true):=jq (by rw[D6]; simp only[Np.kS,g1,g2,g3,Bool.true_and]; simp; omega);clear br lq D6 EH g1 g2 g3;go_wp2_with fail;go_quiet (fail);go_wp2_with fail;go_roundw
       case rel=>exact⟨m+1+1,by omega,by go_num,below_drewN (bI.out.alloc bI.out.size _) _,jq (by rw[HA.out,RA HS.out HX.out])⟩
       case measure=>simp[intOf] <;> omega
     ·have hz:k=0:=by omega
      have HX:Hid (Np.kS (Np.kL (l.take k)) l[k]=true):=jq (by
       have:Np.kL (l.take k)=none:=by rw[hz]; rfl
       rw[this]; simp only[Np.kS,g1,g2,g3,Bool.true_and])
      have ju:decide ((0:Int)<(k:Int))=false:=by simp; omega
      have jw:decide (0<k)=false:=by simp; omega
      clear br hz bH g1 g2 g3;go_wp2_with fail;go_quiet (fail);go_wp2_with fail;go_roundw
      case rel=>exact⟨k+1,by omega,by go_num,below_drewN (bI.out.alloc bI.out.size _) _,jq (by rw[HA.out,RA HS.out HX.out])⟩
      case measure=>simp[intOf] <;> omega
   ·go_wp2_with fail;go_ret;refine⟨ae ?_,hb⟩;rw[HV.out,HA.out,List.drop_of_length_le (by omega)]; rfl
 ·have aUZ:20000<l.length:=by omega
  clear bV;go_enter func33,ntmps33;go_wp2_with fail;go_ret;exact⟨ae (by simp[Np.xp]; omega),vQ _ _⟩
end
section
open Go.RowKit Go.Sort Go.Shelf
section
variable {α:Type} [Inhabited α]
theorem IC(enc:α->List Value)(k:Nat)(hk:∀ x,(enc x).length=k)(h0:0<k)(xs:List α):(flatK enc k xs.toArray).toList=(xs.map enc).flatten:=by
 have hlen:(xs.map enc).flatten.length=xs.length * k:=by
  clear h0
  induction xs with
  | nil=>simp
  | cons y ys ih=>rw[List.map_cons,List.flatten_cons,List.length_append,ih,hk,List.length_cons,Nat.succ_mul]; omega
 apply List.ext_getElem?;intro t;by_cases ht:t<xs.length * k
 ·have h1:t / k<xs.length:=(Nat.div_lt_iff_lt_mul h0).2 ht;have h2:t % k<k:=Nat.mod_lt _ h0;have hr:(xs.map enc)[t / k]?=some (enc xs[t / k]):=by simp[h1]
  have hu:(enc xs[t / k])[t % k]?=some ((enc xs[t / k])[t % k]'(by rw[hk]; exact h2)):=aQ _;have h3:=DR (xs.map enc) (t / k) (t % k) _ _ (by intro r hr; obtain⟨x,_,rfl⟩:=List.mem_map.1 hr; exact hk x) hr hu;rw[show t / k * k+t % k=t by rw[Nat.mul_comm]; exact Nat.div_add_mod t k] at h3;rw[h3];have hs:t<(flatK enc k xs.toArray).size:=by simpa using ht
  rw[Array.getElem?_toList,pQ hs];congr 1;have h4:=get_flatK enc k xs.toArray t (by simpa using ht);rw[getElem!_pos (flatK enc k xs.toArray) t hs] at h4;rw[h4];rw[getElem!_pos xs.toArray (t / k) (by simpa using h1)];rw[getElem!_pos _ (t % k) (by rw[hk]; exact h2)];simp
 ·rw[List.getElem?_eq_none (by simp; omega),List.getElem?_eq_none (by rw[hlen]; omega)]
theorem Zc(enc:α->List Value)(k:Nat)(hk:∀ x,(enc x).length=k)(h0:0<k){w:World}{g:Nat}{cur:Array Value}{e:TypeId}{xs:List α}(hb:w.heap[g]?=some (.cells cur e (0,0)))(ht:cur.toList.take (xs.length * k)=(xs.map enc).flatten):HoldsK enc k w g 0 xs.toArray:=by
 intro j hj;have hj':j<xs.length * k:=by simpa using hj
 refine⟨?_,by simp[World.frozen?,hb]⟩;have h1:(cur.toList.take (xs.length * k))[j]?=(flatK enc k xs.toArray).toList[j]?:=by rw[ht,IC enc k hk h0]
 rw[List.getElem?_take_of_lt hj'] at h1;simp only[World.cell?,hb,Nat.zero_add,Option.isSome_none,Bool.false_eq_true,if_false];rw[<-Array.getElem?_toList,h1];have hs:j<(flatK enc k xs.toArray).size:=by simpa using hj'
 rw[Array.getElem?_toList,pQ hs,getElem!_pos _ j hs];rfl
theorem Yu(enc:α->List Value)(k:Nat){w:World}{g n:Nat}{os:Array Obj}{cur:Array Value}{e:TypeId}{fr:Nat×Nat}(d:Array α)(hb:w.heap[g]?=some (.cells cur e fr)) :
 (sortWorldK enc k w g 0 n d os).heap[g]?=some (.cells (putCells id 0 (flatK enc k d) cur) e fr):=by
 have hl:g<w.heap.size:=(eQ.1 hb).1;unfold sortWorldK putRowK;rw[heap_grow_old _ _ (by simpa [putRow,mapBlock,Sort.ahead] using hl)];simp[putRow,mapBlock,Sort.ahead,Array.getElem?_modify,hb,onCells]
theorem Xn(enc:α->List Value)(k:Nat){w:World}{g n:Nat}{os:Array Obj}(d:Array α):w.grownBy (sortWorldK enc k w g 0 n d os) (some g):=by
 unfold sortWorldK putRowK;refine⟨rfl,rfl,rfl,by simp,λq hq hne=>?_⟩;rw[heap_grow_old _ _ (by simpa using hq)]
 have:g≠q:=λe=>hne (by rw[e])
 simp[putRow,mapBlock,Sort.ahead,Array.getElem?_modify,this]
theorem anX(enc:α->List Value)(k:Nat)(hk:∀ x,(enc x).length=k)(h0:0<k){w:World}{base g cap n:Nat}{e:TypeId}{os:Array Obj}{cur:Array Value}{xs ys:List α}(hl:ys.length=xs.length)(ej:base<=g)(hb:w.heap[g]?=some (.cells cur e (0,0)))
 (h1:xs.length<=cap) (h2:cap<=maxLen) (h3:cur.size=cap * k) :
 (sortWorldK enc k w g 0 n ys.toArray os).ownsRow base e k (.slice (some ⟨g,0,none⟩) xs.length cap) xs.length (ys.map enc).flatten:=by
 have wt:(ys.map enc).flatten.length=ys.length * k:=by
  rw[<-IC enc k hk h0 ys]; simp
 have gw:ys.length * k<=cur.size:=by rw[h3]; exact Nat.mul_le_mul_right k (by omega)
 refine⟨by rw[wt,hl],.inr ⟨g,cap,_,rfl,ej,Yu enc k _ hb,h1,h2,by simp[putCells,h3],?_⟩⟩;rw[<-hl];apply List.ext_getElem?;intro j;by_cases hj:j<ys.length * k
 ·rw[List.getElem?_take_of_lt hj,Array.getElem?_toList,<-IC enc k hk h0 ys];have hs:j<(flatK enc k ys.toArray).size:=by simpa using hj
  rw[Array.getElem?_toList,pQ hs];have tM:j<cur.size:=by omega
  simp[putCells,hj,tM]
 ·rw[List.getElem?_take_eq_none (by omega),List.getElem?_eq_none (by rw[wt]; omega)]
end
def fM(s:Np.Span):List Value:=[.int .i64 s.frm,.int .i64 s.til]
def aK(base:Nat)(w:World)(v:Value)(ps:List Np.Span):Prop:=w.ownsRow base 114 2 v ps.length (ps.map fM).flatten
theorem aK.form{base:Nat}{w:World}{v:Value}{ps:List Np.Span}(h:aK base w v ps):∃ A c,v = .slice A ps.length c:=yZ h
theorem aK.alloc{base:Nat}{w:World}{v:Value}{ps:List Np.Span}(h:aK base w v ps)(o:Obj):aK base (w.alloc o) v ps:=World.ownsRow.alloc h o
theorem aK.keep{base:Nat}{w w':World}{v:Value}{ps:List Np.Span}(h:aK base w v ps)(hb:Below w.heap.size w w'):aK base w' v ps:=fU h (λg hg=>hb.block g (h.lt g hg).2)
theorem aK.nil(base:Nat)(w:World):aK base w (.slice none 0 0) []:=⟨by simp,.inl ⟨rfl,rfl⟩⟩
theorem aK.slr{base:Nat}{w:World}{v:Value}{ps:List Np.Span}(h:aK base w v ps)(hl:ps.length<=140737488355328):SlR fk 2 w w.heap.size v ps:=by
 refine KJ (sz:=2) (e:=114) (base:=base) fM (λ_ _=>rfl) ?_ hl (λx hx=>rfl)
 have:w.ownsRow base 114 2 v ps.length (ps.map fM).flatten:=h
 rwa [<-List.flatMap_def] at this
theorem Tryz.infoSpan:(prog.info? 114).map (λi=>(i.zero,i.size,i.bytes))=some (some (.agg #[.int .i64 0,.int .i64 0]),2,16):=by kernel_rfl
section
variable {ops:Array Oper} {rest:List Oper} {o:Oper} {a:Act} {Q:Exit->Act->World->Prop}
theorem Li(w:World)(iX:o.guard=none)(s x:Operand)(ho:o.op = .call { callee:=.builtin .append,args:=#[s,x],argTypes:=#[46,46] })
 (base:Nat) (v:Value) (ps:List Np.Span) (hs:a.eval s=v) (hown:aK base w v ps) (blk:Nat) (f u:Int) (hx:a.eval x = .slice (some ⟨blk,0,none⟩) 1 1) (hc:w.cell? ⟨blk,0,none⟩=some (.int .i64 f)) (aV:w.cell? ⟨blk,1,none⟩=some (.int .i64 u)) (hlen:ps.length<=100000) (ej:base<=w.heap.size)
 (h:∀ v' w',aK base w' v' (ps ++ [⟨f,u⟩])->Below base w w'->wpList prog ops Q rest (a.put o.dst v') w'):wpList prog ops Q (o::rest) a w:=by
 obtain⟨i0,hi,fS,bL,aM⟩:=info_parts Tryz.infoSpan;refine wpList_append_own_at w iX s x 46 ho base 114 i0 (.agg #[.int .i64 0,.int .i64 0]) 2 16 underlying46 hi fS bL aM rfl (by decide) v ps.length (ps.map fM).flatten hs hown ⟨blk,0,none⟩ 1 1 [.int .i64 f,.int .i64 u] hx rfl ?_ (by simp[Value.oneCell']) (by unfold maxLen; omega) (by omega) ej ?_
 ·intro j y hj
  match j,hj with
  | 0,hj=>simp at hj; subst hj; simpa [Addr.add] using hc
  | 1,hj=>simp at hj; subst hj; simpa [Addr.add] using aV
  | j+2,hj=>simp at hj
 ·intro v' w' ho' hg _ _;refine h v' w' ?_ ((vQ _ _).grown hg ej (λk hk=>(hown.lt k hk).1));have e:(ps ++ [(⟨f,u⟩:Np.Span)]).length=ps.length+1:=by simp
  unfold aK;rw[e,List.map_append,List.flatten_append];exact ho'
end
theorem Xe(f u:Int)(w:World) :
 Calls prog 124 #[.agg #[.int .i64 f,.int .i64 u]] w λe w'=>e = .returned (.bool (decide (f<u)))/\Below w.heap.size w w':=by
 have HB:Hid (∀ o,Below w.heap.size w (w.alloc o)):=jq (λo=>(vQ _ w).alloc (bQ _) _);go_enter func124,ntmps124;go_wp2_with fail;go_ret;exact⟨rfl,HB.out _⟩
theorem aFQ(v:Value)(l:List Np.Span)(bV:l.length<=20000)(hf:∀ s∈l,s.frm<s.til)(w:World)(h:SlR fk 2 w w.heap.size v l) :
 Calls prog 123 #[v,.func (.func 124) #[] #[]] w λe w'=>∃ v',e = .returned v'/\aK w.heap.size w' v' l/\Below w.heap.size w w':=by
 have HD:=jq h;have HF:=jq hf;obtain⟨A,c,rfl,aV,bi⟩:=ah h;clear h hf;have HE:=jq (enters_of func124 (by kernel_rfl) rfl);go_enter func123,ntmps123;go_wp2_with fail;go_loopw [5,10] (λvo i wr=>∃ (k:Nat),k<=l.length/\i = .int .i64 k/\Hid (Below w.heap.size w wr)/\Hid (aK w.heap.size wr vo (l.take k))) (λ_ i _=>l.length - (intOf i).toNat)
 case atStart=>exact⟨0,jQ _,rfl,jq (vQ _ _),jq (aK.nil _ _)⟩
 case round=>
  obtain⟨k,hk,rfl,HB,HO⟩:=hrel;have am:=HB.out.size;by_cases aa:k<l.length
  ·obtain⟨x,ac⟩:∃ x,l[k]?=some x:=⟨_,aQ aa⟩;obtain⟨A',c',hA',_,_,br⟩:=HD.out.keep eZ HB.out
   cases hA'
   obtain⟨b,o,e,rfl,bZ,hlen,hce,hR⟩:=br k _ ac;obtain rfl:=hR;have h0:wr.cell? ⟨b,o+k * 2,none⟩=some (.int .i64 x.frm):=hce 0 _ rfl;have h1:wr.cell? ⟨b,o+k * 2+1,none⟩=some (.int .i64 x.til):=hce 1 _ rfl;have hd:decide (x.frm<x.til)=true:=uQ (HF.out x (gQ ac));have HT:Hid (l.take (k+1)=l.take k ++ [x]):=jq (by
    obtain⟨hl,he⟩:=cQ.1 ac;rw[fQ hl,he])
   have HL:Hid ((l.take k).length<=100000):=jq (by rw[List.length_take]; omega);obtain⟨f,u⟩:=x;have dz:b<wr.heap.size:=by omega
   clear br hce ac;dsimp only at h0 h1 hd;have aY:Hid (∀ o,Below w.heap.size w (wr.alloc o)):=jq (λo=>HB.out.alloc HB.out.size _);go_wp2_with (fail);refine (Xe f u _).mono ?_;rintro e w2 ⟨rfl,ab⟩;rw[hd];have al:Hid (Below w.heap.size w w2):=jq ((aY.out _).trans (ab.mono (by simp; omega)));have bk:Hid (aK w.heap.size w2 u5 (l.take k)):=jq ((HO.out.alloc _).keep ab);have c0:w2.cell? ⟨wr.heap.size,0,none⟩=some (.int .i64 f):=by rw[ab.cell (by simp)]; simp[go_sem]
   have c1:w2.cell? ⟨wr.heap.size,1,none⟩=some (.int .i64 u):=by rw[ab.cell (by simp)]; simp[go_sem]
   have aM:wr.heap.size<w2.heap.size:=by have:=ab.size; simp at this; omega
   clear ab;go_wp2_with (at_builtin; refine Li _ rfl _ _ rfl w.heap.size _ (l.take k) rfl (bk.out.alloc _) w2.heap.size f u (by simp[go_sem]) (by simp[go_sem]) (by simp[go_sem]) HL.out (by simp; omega) ?_; intro v5 w5 kE aF; have H5:=jq (And.intro kE aF); clear kE aF);go_roundw
   case rel=>exact⟨k+1,by omega,by go_num,jq ((al.out.alloc (by omega) _).trans H5.out.2),jq (by rw[HT.out]; exact H5.out.1)⟩
   case measure=>simp[intOf] <;> omega
  ·have HE':Hid (l.take k=l):=jq (kQ (by omega));go_wp2_with fail;go_ret;exact⟨_,rfl,by have:=HO.out; rwa [HE'.out] at this,HB.out⟩
instance:Inhabited Np.Span:=⟨⟨0,0⟩⟩
theorem akY(f u f' u':Int)(w:World) :
 Calls prog 125 #[.agg #[.int .i64 f,.int .i64 u],.agg #[.int .i64 f',.int .i64 u']] w λe w'=>e = .returned (.int .i64 (Np.cJ f f'))/\∃ q os,w'=grow (w.drewN q) os:=by
 go_enter func125,ntmps125;go_wp2_with (go_at_call 58; refine (AS _ _ _).mono ?_; rintro e w' ⟨rfl,rfl⟩);go_ret;exact⟨rfl,0,_,by rw[alloc_eq_grow,alloc_eq_grow,grow_grow]; rfl⟩
theorem E5(x y:Np.Span):ltOf (λx y:Np.Span=>Np.cJ x.frm y.frm) x y=decide (x.frm<y.frm):=by
 unfold ltOf Np.cJ;by_cases h1:x.frm<y.frm
 ·simp[h1]
 ·by_cases h2:y.frm<x.frm <;> simp[h1,h2]
theorem aIY:SWO (ltOf λx y:Np.Span=>Np.cJ x.frm y.frm) where
 irrefl x:=by rw[E5]; simp
 trans x y z h1 h2:=by rw[E5] at *; simp at *; omega
 ntrans x y z h1 h2:=by rw[E5] at *; simp at *; omega
theorem aGJ{d d':Array Np.Span}(hp:PermIn 0 d.size d d')(hs:SortedIn (ltOf λx y:Np.Span=>Np.cJ x.frm y.frm) 0 d.size d'):d'.toList.Perm d.toList/\d'.toList.Pairwise λa b=>a.frm<=b.frm:=by
 obtain⟨h1,_,h3⟩:=hp;refine⟨?_,?_⟩
 ·have e1:d'.extract 0 d.size=d':=by rw[<-h1]; simp
  have e2:d.extract 0 d.size=d:=by simp
  rwa [e1,e2] at h3
 ·rw[List.pairwise_iff_getElem];intro i j hi hj dU
  have:=hs i j (jQ _) dU (by rw[<-h1]; simpa using hj)
  rw[E5,getElem!_pos d' i (by simpa using hi),getElem!_pos d' j (by simpa using hj)] at this;simpa using this
theorem Rx(fid:FuncId)(Yx:∀ (f u f' u':Int) (w:World),Calls prog fid #[.agg #[.int .i64 f,.int .i64 u],.agg #[.int .i64 f',.int .i64 u']] w λe w'=>e = .returned (.int .i64 (Np.cJ f f'))/\∃ q os,w'=grow (w.drewN q) os)(eg:∀ args w,(callFunc fid args).run prog w = .ok (.enter fid args) w)(base:Nat)(v:Value)(xs:List Np.Span)(w:World)(hown:aK base w v xs)(hl:xs.length<=100000) :
 Calls prog 56 #[v,.func (.func fid) #[] #[]] w λe w'=>e = .returned (.tuple #[])/\∃ ys:List Np.Span,ys.Perm xs/\ys.Pairwise (λa b=>a.frm<=b.frm)/\aK base w' v ys/\w.grownBy w' v.ownBlock:=by
 have pL:w.ownsRow base 114 2 v xs.length (xs.map fM).flatten:=hown;rcases pL.2 with ⟨rfl,h0⟩ | ⟨g,cap,cur,rfl,ej,hb,h1,h2,h3,h4⟩
 ·have:xs = []:=rQ h0
  subst this;refine (AnyF.slices_SortFunc_none Tryz.sortSpan none 0 _ w).mono ?_;intro e w' hh;obtain⟨rfl,rfl⟩:=hh;exact⟨rfl,[],List.Perm.refl _,List.Pairwise.nil,hown,⟨rfl,rfl,rfl,bQ _,λ_ _ _=>rfl⟩⟩
 have aE:∀ w,(isAgg 114).run prog w = .ok true w:=λw=>by kernel_rfl
 have zE:∀ w,(Go.sizeOf 114).run prog w = .ok 2 w:=λw=>by kernel_rfl
 have hH:=Zc fM 2 (λ_=>rfl) (by omega) hb h4;have BA:CmpLays prog fid #[] fM 2 (λx y:Np.Span=>Np.cJ x.frm y.frm) g 0 xs.toArray.size w:=λm os dk _ x y=>Yx x.frm x.til y.frm y.til _;have Em:=AnyQ.slices_SortFunc Tryz.sortSpan 2 aE zE fM (λ_=>rfl) (λx u hu=>by simp only[fM,List.mem_cons,Qh,or_false] at hu; rcases hu with rfl | rfl <;> rfl) (λx y:Np.Span=>Np.cJ x.frm y.frm) aIY fid #[] g 0 cap xs.toArray w eg BA hH (eQ.1 hb).1 (by simp; omega);refine Em.mono λe w' ⟨he,d',n,os,hp,hs,hw⟩=>⟨he,d'.toList,?_⟩;obtain⟨p1,p2⟩:=aGJ hp hs;have hlen:d'.toList.length=xs.length:=by simpa using p1.length_eq
 refine⟨by simpa using p1,p2,?_,?_⟩
 ·subst hw;unfold aK;rw[hlen]
  have:=anX fM 2 (λ_=>rfl) (by omega) (n:=n) (os:=os) hlen ej hb h1 h2 h3
  simpa using this
 ·subst hw;exact Xn fM 2 _
theorem aGQ(base:Nat)(v:Value)(xs:List Np.Span)(w:World)(hown:aK base w v xs)(hl:xs.length<=100000) :
 Calls prog 56 #[v,.func (.func 125) #[] #[]] w λe w'=>e = .returned (.tuple #[])/\∃ ys:List Np.Span,ys.Perm xs/\ys.Pairwise (λa b=>a.frm<=b.frm)/\aK base w' v ys/\w.grownBy w' v.ownBlock:=
 Rx _ akY (enters_of func125 (by kernel_rfl) rfl) base v xs w hown hl
theorem RM:∀ (l o:List Np.Span),(l.foldl Np.fY o).length<=o.length+l.length:=by
 intro l
 induction l with
 | nil=>intro o; simp
 | cons s l ih=>
  intro o;have h1:(Np.fY o s).length<=o.length+1:=by
   rcases List.eq_nil_or_concat o with rfl | ⟨q,p,rfl⟩
   ·simp[Np.RL]
   ·rw[List.concat_eq_append,Np.K6]; split <;> simp
  have:=ih (Np.fY o s)
  rw[List.foldl_cons,List.length_cons]; omega
theorem W4(q:List Np.Span)(p:Np.Span)(u:Int):(((q ++ [p]).map fM).flatten).set (q.length * 2+1) (.int .i64 u)=((q ++ [(⟨p.frm,u⟩:Np.Span)]).map fM).flatten:=by
 have hl:((q.map fM).flatten).length=q.length * 2:=by rw[<-List.flatMap_def]; induction q with | nil=>rfl | cons a q ih=>simp[List.flatMap_cons,ih,fM]; omega
 rw[List.map_append,List.flatten_append,List.map_append,List.flatten_append,List.set_append_right _ _ (by rw[hl]; omega),hl];congr 1;rw[show q.length * 2+1 - q.length * 2=1 by omega];rfl
theorem WZ(q:List Np.Span)(p:Np.Span)(j:Nat):(((q ++ [p]).map fM).flatten)[q.length * 2+j]?=(fM p)[j]?:=by
 have hl:((q.map fM).flatten).length=q.length * 2:=by rw[<-List.flatMap_def]; induction q with | nil=>rfl | cons a q ih=>simp[List.flatMap_cons,ih,fM]; omega
 rw[List.map_append,List.flatten_append,oQ (by rw[hl]; omega),hl];simp
theorem aLZ(v:Value)(l:List Np.Span)(bV:l.length<=20000)(w:World)(h:SlR fk 2 w w.heap.size v l) :
 Calls prog 126 #[v] w (λe w'=>∃ v',e = .returned v'/\aK w.heap.size w' v' (l.foldl Np.fY [])/\Below w.heap.size w w'):=by
 have HD:=jq h;obtain⟨A,c,rfl,aV,bi⟩:=ah h;clear h;have HN:Hid (∀ k,((l.take k).foldl Np.fY []).length<=k):=jq (λk=>yQ (RM _ _) (by simp; omega));go_enter func126,ntmps126;go_wp2_with fail;go_loopw [3,9] (λvo i wr=>∃ (k:Nat),k<=l.length/\i = .int .i64 k/\Hid (Below w.heap.size w wr)/\Hid (aK w.heap.size wr vo ((l.take k).foldl Np.fY []))) (λ_ i _=>l.length - (intOf i).toNat)
 case atStart=>exact⟨0,jQ _,rfl,jq (vQ _ _),jq (aK.nil _ _)⟩
 case round=>
  obtain⟨k,hk,rfl,HB,HO⟩:=hrel;have am:=HB.out.size;by_cases aa:k<l.length
  ·obtain⟨x,ac⟩:∃ x,l[k]?=some x:=⟨_,aQ aa⟩;obtain⟨A',c',hA',_,_,br⟩:=HD.out.keep eZ HB.out
   cases hA'
   obtain⟨b,o,e,rfl,bZ,hlen,hce,hR⟩:=br k _ ac;obtain rfl:=hR;have h0:wr.cell? ⟨b,o+k * 2,none⟩=some (.int .i64 x.frm):=hce 0 _ rfl;have h1:wr.cell? ⟨b,o+k * 2+1,none⟩=some (.int .i64 x.til):=hce 1 _ rfl;have HT:Hid ((l.take (k+1)).foldl Np.fY []=Np.fY ((l.take k).foldl Np.fY []) x):=jq (by
    obtain⟨hl,he⟩:=cQ.1 ac;rw[fQ hl,he,List.foldl_append]; rfl)
   have dz:b<wr.heap.size:=by omega
   have aY:Hid (∀ o,Below w.heap.size w (wr.alloc o)):=jq (λo=>HB.out.alloc HB.out.size _);have yH:=HN.out k;obtain⟨fr,ti⟩:=x;clear br hce ac;dsimp only at h0 h1;obtain⟨ol,Pe⟩:∃ ol,(l.take k).foldl Np.fY []=ol:=⟨_,rfl⟩;rw[Pe] at HO HT yH;clear Pe;rcases List.eq_nil_or_concat ol with rfl | ⟨q,p,rfl⟩
   ·obtain⟨A0,c0,rfl⟩:=aK.form HO.out;go_wp2_with fail;go_quiet (fail);obtain⟨w2,aj⟩:∃ w2,(wr.alloc (.cells #[.int .i64 fr,.int .i64 ti] 114)).drewN nq=w2:=⟨_,rfl⟩;have aM:w2.heap.size=wr.heap.size+1:=by rw[<-aj]; simp
    have c0:w2.cell? ⟨wr.heap.size,0,none⟩=some (.int .i64 fr):=by rw[<-aj]; simp[go_sem]
    have c1:w2.cell? ⟨wr.heap.size,1,none⟩=some (.int .i64 ti):=by rw[<-aj]; simp[go_sem]
    have iV:Below wr.heap.size wr w2:=by rw[<-aj]; exact below_drewN ((vQ _ _).alloc (bQ _) _) _
    have al:Hid (Below w.heap.size w w2):=jq (HB.out.trans (iV.mono am));have bk:Hid (aK w.heap.size w2 _ []):=jq (HO.out.keep iV);rw[aj];clear aj iV;go_wp2_with (at_builtin; refine Li _ rfl _ _ rfl w.heap.size _ [] rfl (bk.out.alloc _) w2.heap.size fr ti (by simp[go_sem]) (by simp[go_sem]) (by simp[go_sem]) (by simp) (by simp; omega) ?_; intro v5 w5 kE aF; have H5:=jq (And.intro kE aF); clear kE aF);go_roundw
    case rel=>exact⟨k+1,by omega,by go_num,jq ((al.out.alloc (by omega) _).trans H5.out.2),jq (by rw[HT.out]; exact H5.out.1)⟩
    case measure=>simp[intOf] <;> omega
   ·rw[List.concat_eq_append] at HO HT yH;have hown:wr.ownsRow w.heap.size 114 2 u3 (q ++ [p]).length ((q ++ [p]).map fM).flatten:=HO.out;have LL:=jq (WZ q p);have Th:=jq (W4 q p);have TL:Hid ((q ++ [p]).length<=100000):=jq (by omega);have nr:(q ++ [p]).length=q.length+1:=by simp
    have hqk:q.length+1<=k:=by rw[nr] at yH; exact yH
    clear yH;rcases hown.2 with ⟨_,Xp⟩ | ⟨g,cap,cur,rfl,ej,hb,aO,be,_,_⟩
    ·rw[nr] at Xp; omega
    have gm:=jq hown;have lg:g<wr.heap.size:=(eQ.1 hb).1;clear hb hown;obtain⟨M,hM⟩:∃ M,(q ++ [p]).length=M:=⟨_,rfl⟩;obtain⟨m,hm⟩:∃ m,q.length=m:=⟨_,rfl⟩;have g0:wr.cell? ⟨g,m * 2,none⟩=some (.int .i64 p.frm):=by
     rw[<-hm,gm.out.cellAt _ (by rw[nr]; omega)]
     have:=LL.out 0
     rwa [Nat.add_zero] at this
    have g1:wr.cell? ⟨g,m * 2+1,none⟩=some (.int .i64 p.til):=by
     rw[<-hm,gm.out.cellAt _ (by rw[nr]; omega)];exact LL.out 1
    have gf:wr.frozen? ⟨g,m * 2+1,none⟩=false:=gm.out.frozenAt _;rw[nr,hm] at hM;have hq:IntKind.i64.wrap ((M:Int) - 1)=(m:Int):=by rw[show (M:Int) - 1=m by omega]; simp[IntKind.wrap,IntKind.bits,IntKind.signed]; omega
    have hM0:decide (0<(M:Int))=true:=uQ (by omega);have aVQ:decide (0<M)=true:=uQ (by omega);have hmM:m<M:=by omega
    have a3Z:(m:Int)<(M:Int):=by omega
    have ju:(0:Int)<=(m:Int):=by omega
    have HM:Hid ((q ++ [p]).length=M):=jq (by rw[nr,hm,hM]);rw[HM.out] at aO;have Dc:=jq hM;have HQ:=jq hm;have MA:=jq (Np.K6 q p ⟨fr,ti⟩);clear hM hm nr;rw[HM.out];by_cases gw:fr<=p.til
    ·have hd:decide (fr<=p.til)=true:=uQ gw;have mZ:Hid ((l.take (k+1)).foldl Np.fY []=q ++ [⟨p.frm,max p.til ti⟩]):=jq (by rw[HT.out,MA.out,Qb gw]);clear gw;go_wp2_with fail;go_quiet (fail);obtain⟨w2,aj⟩:∃ w2,(wr.alloc (.cells #[.int .i64 fr,.int .i64 ti] 114)).drewN nq=w2:=⟨_,rfl⟩;have aM:w2.heap.size=wr.heap.size+1:=by rw[<-aj]; simp
     have c0:w2.cell? ⟨wr.heap.size,0,none⟩=some (.int .i64 fr):=by rw[<-aj]; simp[go_sem]
     have c1:w2.cell? ⟨wr.heap.size,1,none⟩=some (.int .i64 ti):=by rw[<-aj]; simp[go_sem]
     have iV:Below wr.heap.size wr w2:=by rw[<-aj]; exact below_drewN ((vQ _ _).alloc (bQ _) _) _
     have al:Hid (Below w.heap.size w w2):=jq (HB.out.trans (iV.mono am));have bk:Hid (aK w.heap.size w2 (.slice (some ⟨g,0,none⟩) M cap) (q ++ [p])):=jq (HM.out ▸ HO.out.keep iV);rw[aj];clear aj;have d1:w2.cell? ⟨g,m * 2+1,none⟩=some (.int .i64 p.til):=(iV.cell lg).trans g1;have df:w2.frozen? ⟨g,m * 2+1,none⟩=false:=(iV.frozen lg).trans gf;clear iV g0 g1 gf;go_wp2_with fail;go_region;have cI:Hid (aK w.heap.size (w2.setCell ⟨g,m * 2+1,none⟩ (.int .i64 (max p.til ti))).drew (.slice (some ⟨g,0,none⟩) M cap) (q ++ [⟨p.frm,max p.til ti⟩])/\Below w.heap.size w (w2.setCell ⟨g,m * 2+1,none⟩ (.int .i64 (max p.til ti))).drew):=jq (by
      have h1:w2.ownsRow w.heap.size 114 2 (.slice (some ⟨g,0,none⟩) (q ++ [p]).length cap) (q ++ [p]).length ((q ++ [p]).map fM).flatten:=by
       have:=bk.out
       rw[<-HM.out] at this;exact this
      obtain⟨h2,h3⟩:=World.ownsRow.stored h1 (m * 2+1) (.int .i64 (max p.til ti));refine⟨aK.keep (w:=w2.setCell ⟨g,m * 2+1,none⟩ (.int .i64 (max p.til ti))) ?_ (vQ _ _).drew,(al.out.grown h3 al.out.size (λk hk=>by simp at hk; omega)).drew⟩;rw[<-HQ.out] at h2 |-;rw[Th.out] at h2;have e1:(q ++ [(⟨p.frm,max p.til ti⟩:Np.Span)]).length=(q ++ [p]).length:=by simp
      unfold aK;rw[e1,<-HM.out];exact h2)
     go_wp2_with fail;go_roundw
     case rel=>exact⟨k+1,by omega,by go_num,jq cI.out.2,jq (by rw[mZ.out]; exact cI.out.1)⟩
     case measure=>simp[intOf] <;> omega
    ·have hd:decide (fr<=p.til)=false:=tQ gw;have mZ:Hid ((l.take (k+1)).foldl Np.fY []=q ++ [p] ++ [⟨fr,ti⟩]):=jq (by rw[HT.out,MA.out,Qc gw]);clear gw;go_wp2_with fail;go_quiet (fail);obtain⟨w2,aj⟩:∃ w2,(wr.alloc (.cells #[.int .i64 fr,.int .i64 ti] 114)).drewN nq=w2:=⟨_,rfl⟩;have aM:w2.heap.size=wr.heap.size+1:=by rw[<-aj]; simp
     have c0:w2.cell? ⟨wr.heap.size,0,none⟩=some (.int .i64 fr):=by rw[<-aj]; simp[go_sem]
     have c1:w2.cell? ⟨wr.heap.size,1,none⟩=some (.int .i64 ti):=by rw[<-aj]; simp[go_sem]
     have iV:Below wr.heap.size wr w2:=by rw[<-aj]; exact below_drewN ((vQ _ _).alloc (bQ _) _) _
     have al:Hid (Below w.heap.size w w2):=jq (HB.out.trans (iV.mono am));have bk:Hid (aK w.heap.size w2 (.slice (some ⟨g,0,none⟩) M cap) (q ++ [p])):=jq (HM.out ▸ HO.out.keep iV);rw[aj];clear aj;clear iV g0 g1 gf;go_wp2_with (at_builtin; refine Li _ rfl _ _ rfl w.heap.size _ (q ++ [p]) rfl (bk.out.alloc _) w2.heap.size fr ti (by simp[go_sem]) (by simp[go_sem]) (by simp[go_sem]) TL.out (by simp; omega) ?_; intro v5 w5 kE aF; have H5:=jq (And.intro kE aF); clear kE aF);go_roundw
     case rel=>exact⟨k+1,by omega,by go_num,jq ((al.out.alloc (by omega) _).trans H5.out.2),jq (by rw[mZ.out]; exact H5.out.1)⟩
     case measure=>simp[intOf] <;> omega
  ·have HE':Hid (l.take k=l):=jq (kQ (by omega));go_wp2_with fail;go_ret;exact⟨_,rfl,by have:=HO.out; rwa [HE'.out] at this,HB.out⟩
def Np.Dw(s:Np.Span):Prop:=0<=s.frm/\s.frm<s.til/\s.til<=20000000
theorem aK.weak{base base':Nat}{w:World}{v:Value}{ps:List Np.Span}(h:aK base w v ps)(hb:base'<=base):aK base' w v ps:=by
 refine⟨h.1,?_⟩;rcases h.2 with h2 | ⟨g,cap,cur,h1,h2,h3⟩
 ·exact .inl h2
 ·exact .inr ⟨g,cap,cur,h1,yQ hb h2,h3⟩
theorem Fb(l:List Np.Span):(Np.eL l).length<=l.length:=by
 have:=RM (l.mergeSort λa b=>decide (a.frm<=b.frm)) []
 simpa [Np.eL] using this
theorem QA(v:Value)(l:List Np.Span)(bV:l.length<=20000)(hin:∀ s∈l,Np.Dw s)(w:World)(h:SlR fk 2 w w.heap.size v l) :
 Calls prog 66 #[v] w (λe w'=>∃ v',e = .returned (.tuple #[v',.int .i64 0])/\aK w.heap.size w' v' (Np.eL l)/\Below w.heap.size w w'):=by
 have HD:=jq h;have mq:=jq hin;obtain⟨A,c,rfl,aV,bi⟩:=ah h;clear h hin;have gw:decide (20000<(l.length:Int))=false:=tQ (by omega);go_enter func66,ntmps66;go_wp2_with fail;go_loopw [12] (λi wr=>∃ (k:Nat),k<=l.length/\i = .int .i64 k/\Hid (Below w.heap.size w wr)) (λi _=>l.length - (intOf i).toNat)
 case atStart=>exact⟨0,jQ _,rfl,jq (vQ _ _)⟩
 case round=>
  obtain⟨k,hk,rfl,HB⟩:=hrel;have am:=HB.out.size;by_cases aa:k<l.length
  ·obtain⟨x,ac⟩:∃ x,l[k]?=some x:=⟨_,aQ aa⟩;obtain⟨A',c',hA',_,_,br⟩:=HD.out.keep eZ HB.out
   cases hA'
   obtain⟨b,o,e,rfl,bZ,hlen,hce,hR⟩:=br k _ ac;obtain rfl:=hR;have h0:wr.cell? ⟨b,o+k * 2,none⟩=some (.int .i64 x.frm):=hce 0 _ rfl;have h1:wr.cell? ⟨b,o+k * 2+1,none⟩=some (.int .i64 x.til):=hce 1 _ rfl;obtain⟨i1,i2,i3⟩:=mq.out x (gQ ac);have eU:decide (x.frm<0)=false:=tQ (by omega);have ls:decide (x.til<x.frm)=false:=tQ (by omega);have Ji:decide (20000000<x.til)=false:=tQ (by omega);have aY:Hid (∀ o,Below w.heap.size w (wr.alloc o)):=jq (λo=>HB.out.alloc HB.out.size _);have dz:b<wr.heap.size:=by omega
   obtain⟨fr,ti⟩:=x;clear br hce ac i1 i2 i3;dsimp only at h0 h1 eU ls Ji;go_wp2_with fail;go_roundw
   case rel=>exact⟨k+1,by omega,by go_num,jq (aY.out _)⟩
   case measure=>simp[intOf] <;> omega
  ·have jI:=jq (HD.out.keep eZ HB.out);go_wp2_with fail;refine (aFQ _ l bV (λs hs=>(mq.out s hs).2.1) _ ((jI.out.more jd am))).mono ?_;rintro e w2 ⟨v2,rfl,lZ,ab⟩;have bk:=jq lZ;have al:=jq (HB.out.trans (ab.mono am));have aM:wr.heap.size<=w2.heap.size:=ab.size;clear lZ ab;obtain⟨A2,c2,rfl⟩:=bk.out.form;go_wp2_with fail;refine (aGQ wr.heap.size _ l _ bk.out (by omega)).mono ?_;rintro e w3 ⟨rfl,ys,hp,hs,kD,qB⟩;have nF:ys.length=l.length:=hp.length_eq;have HY:Hid (ys.foldl Np.fY []=Np.eL l):=jq (Np.alQ (λs hs=>(mq.out s hs).2.1) hp hs);have lL:=jq kD;have ag:Below wr.heap.size w2 w3:=(vQ _ _).grown qB aM (λk hk=>(World.ownsRow.lt bk.out k hk).1);have ar:=jq (al.out.trans (ag.mono am));clear hp hs kD qB;go_wp2_with fail;refine (aLZ _ ys (by omega) _ (lL.out.slr (by omega))).mono ?_;rintro e w4 ⟨v4,rfl,l5,an⟩;have HE:=jq (And.intro l5 (ar.out.trans (an.mono ar.out.size)));clear l5 an;go_wp2_with fail;go_ret2;exact⟨_,rfl,by have:=HE.out.1.weak ar.out.size; rw[HY.out] at this; exact this,HE.out.2⟩
end
end Go.Proofs.YtbfbobfbgabjiaaGreatDoor
