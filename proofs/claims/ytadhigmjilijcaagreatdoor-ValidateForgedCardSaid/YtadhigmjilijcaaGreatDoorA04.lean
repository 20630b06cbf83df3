/- No condition. -/
import Derived.Test.YtadhigmjilijcaaGreatDoorA01
set_option linter.all false
set_option maxRecDepth 100000
set_option maxHeartbeats 8000000
namespace Go.Proofs.YtadhigmjilijcaaGreatDoor
open Go.Proofs.Tryz
section
open Go.RowKit
def dw(_:World)(_:Nat)(e:List Value)(g:Np.Sig):Prop:=∃ s:ByteArray,s.data.toList=g.zone/\s.size<=140737488355328/\e = [.string s,.int .i64 g.key,.int .i64 g.alg,.int .i64 g.frm,.int .i64 g.til,.int .u64 g.sum]
theorem cK:eh dw:=λ_ _ _ _ _ h _=>h
theorem da:eI dw:=λ_ _ _ _ _ h _=>h
def aB(W:World)(B:Nat)(e:List Value)(x:Np.Signed):Prop:=∃ (s:ByteArray) (v u:Value),s.data.toList=x.set.name/\s.size<=140737488355328/\SlR bS 3 W B v x.set.data/\SlR dw 6 W B u x.sigs/\e = [.string s,.int .i64 x.set.type,.int .i64 x.set.life,v,u]
theorem az:eh aB:=λ_ _ _ _ _ ⟨s,v,u,h1,h2,h3,h4,h5⟩ hb=>⟨s,v,u,h1,h2,h3.keep br hb,h4.keep cK hb,h5⟩
theorem bf:eI aB:=λ_ _ _ _ _ ⟨s,v,u,h1,h2,h3,h4,h5⟩ hb=>⟨s,v,u,h1,h2,h3.more bB hb,h4.more da hb,h5⟩
theorem SlR.later{α:Type}{R:aUJ α}{sz:Nat}{w w':World}{v:Value}{xs:List α}(hk:eh R)(hm:eI R)(h:SlR R sz w w.heap.size v xs)(hb:Below w.heap.size w w'):SlR R sz w' w'.heap.size v xs:=(h.keep hk hb).more hm hb.size
theorem ug{w:World}{B:Nat}{v:Value}{xs:List Np.Datum}(h:SlR bS 3 w B v xs){k:Nat}{x:Np.Datum}(hx:xs[k]?=some x):∃ (b o c:Nat) (s:ByteArray),v = .slice (some ⟨b,o,none⟩) xs.length c/\b<B/\xs.length<=c/\s.data.toList=x.text/\s.size<=140737488355328/\
 w.cell? ⟨b,o+k * 3,none⟩=some (.string s)/\w.cell? ⟨b,o+k * 3+1,none⟩=some (.int .i64 x.n)/\w.cell? ⟨b,o+k * 3+2,none⟩=some (.int .i64 x.m):=by
 obtain⟨A,c,rfl,hc,_,he⟩:=h;obtain⟨b,o,e,rfl,hb,_,hce,s,h1,h2,rfl⟩:=he k x hx;exact⟨b,o,c,s,rfl,hb,hc,h1,h2,by have:=hce 0 _ rfl;simpa using this,hce 1 _ rfl,hce 2 _ rfl⟩
theorem mE{w:World}{B:Nat}{v:Value}{xs:List Np.Signed}(h:SlR aB 5 w B v xs){k:Nat}{x:Np.Signed}(hx:xs[k]?=some x):∃ (b o c:Nat) (s:ByteArray) (dv sv:Value),v = .slice (some ⟨b,o,none⟩) xs.length c/\b<B/\xs.length<=c/\s.data.toList=x.set.name/\s.size<=140737488355328/\SlR bS 3 w B dv x.set.data/\SlR dw 6 w B sv x.sigs/\
 w.cell? ⟨b,o+k * 5,none⟩=some (.string s)/\w.cell? ⟨b,o+k * 5+1,none⟩=some (.int .i64 x.set.type)/\w.cell? ⟨b,o+k * 5+2,none⟩=some (.int .i64 x.set.life)/\w.cell? ⟨b,o+k * 5+3,none⟩=some dv/\w.cell? ⟨b,o+k * 5+4,none⟩=some sv:=by
 obtain⟨A,c,rfl,hc,_,he⟩:=h;obtain⟨b,o,e,rfl,hb,_,hce,s,dv,sv,h1,h2,h3,h4,rfl⟩:=he k x hx;exact⟨b,o,c,s,dv,sv,rfl,hb,hc,h1,h2,h3,h4,by have:=hce 0 _ rfl;simpa using this,hce 1 _ rfl,hce 2 _ rfl,hce 3 _ rfl,hce 4 _ rfl⟩
theorem fc{α:Type}{R:aUJ α}{sz:Nat}{w:World}{B:Nat}{v:Value}{xs:List α}(h:SlR R sz w B v xs):∃ A c,v = .slice A xs.length c/\xs.length<=c/\xs.length<=140737488355328:=by
 obtain⟨A,c,h1,h2,h3,_⟩:=h;exact⟨A,c,h1,h2,h3⟩
def vk(l:List UInt8)(j:Nat):Prop:=∃ c,l[j]?=some c/\(Np.qd c=true\/Np.oR c=true\/(c=45/\0<j/\j+1<l.length))
theorem PN{c:UInt8}(h:Np.qd c=true\/Np.oR c=true):c≠45:=by rintro rfl;revert h;decide
theorem adY{l:List UInt8}(h:∀ j,j<l.length->vk l j):Np.bT l=(decide (1<=l.length)&&decide (l.length<=12)):=by
 have cX:l.all Np.mD=true:=by
  rw[List.all_eq_true];intro c hc;obtain⟨j,hj,rfl⟩:=nQ.1 hc;obtain⟨c,e,ho⟩:=h j hj;rw[aQ hj] at e;simp only[Option.some.injEq] at e;rw[e];unfold Np.mD;rcases ho with ho | ho | ⟨ho,_⟩<;>simp[ho]
 unfold Np.bT;rw[cX,Bool.and_true];by_cases h1:1<=l.length
 ·have hh:∀ j,j<l.length->j=0\/j+1=l.length->l[j]?≠some 45:=by
   intro j hj he hc;obtain⟨c,e,ho⟩:=h j hj;rw[hc] at e;simp only[Option.some.injEq] at e;subst e;rcases ho with ho | ho | ⟨_,h2,h3⟩
   ·exact PN (.inl ho) rfl
   ·exact PN (.inr ho) rfl
   ·omega
  have h2:(l.head? == some 45)=false:=by rw[List.head?_eq_getElem?];simpa using hh 0 (by omega) (.inl rfl)
  have h3:(l.getLast? == some 45)=false:=by rw[List.getLast?_eq_getElem?];simpa using hh (l.length - 1) (by omega) (.inr (by omega))
  rw[h2,h3];simp
 ·rw[tQ h1];rfl
theorem Pm{l:List UInt8}{j:Nat}(hj:j<l.length)(h:¬ vk l j):Np.bT l=false:=by
 cases hl:Np.bT l with
 | false=>rfl
 | true=>
  exfalso;unfold Np.bT at hl;simp only[Bool.and_eq_true,Qa,Bool.not_eq_true',beq_eq_false_iff_ne] at hl;obtain⟨⟨⟨_,h2⟩,h3⟩,h4⟩:=hl;have hb:=List.all_eq_true.1 h4 l[j] (List.getElem_mem hj);refine h ⟨l[j],aQ hj,?_⟩;simp only[Np.mD,Bool.or_eq_true,beq_iff_eq] at hb;rcases hb with (hb | hb) | hb
  ·exact .inl hb
  ·exact .inr (.inl hb)
  ·refine .inr (.inr ⟨hb,?_,?_⟩)
   ·refine Nat.pos_of_ne_zero λe=>?_;subst e;rw[List.head?_eq_getElem?,aQ hj,hb] at h2;exact h2 rfl
   ·refine Nat.lt_of_not_le λe=>?_
    have:j=l.length - 1:=by omega
    rw[List.getLast?_eq_getElem?,<-this,aQ hj,hb] at h3;exact h3 rfl
theorem anJ(s:ByteArray)(k:Nat)(hk:k<s.size):vk s.data.toList k↔((97<=(s[k].toNat:Int)/\(s[k].toNat:Int)<=122)\/(48<=(s[k].toNat:Int)/\(s[k].toNat:Int)<=57)\/((s[k].toNat:Int)=45/\0<k/\k+1<s.size)):=by
 unfold vk;rw[wo s k hk];simp only[Option.some.injEq,exists_eq_left'];have sD:s[k]=45↔(s[k].toNat:Int)=45:=by
  constructor
  ·intro h;rw[h];rfl
  ·intro h;apply UInt8.toNat_inj.1;have:s[k].toNat=45:=by omega
   rw[this];rfl
 rw[sD,be];unfold Np.qd Np.oR;simp only[Bool.and_eq_true,Qa,UInt8.le_iff_toNat_le];have e1:(97:UInt8).toNat=97:=rfl;have e2:(122:UInt8).toNat=122:=rfl;have e3:(48:UInt8).toNat=48:=rfl;have e4:(57:UInt8).toNat=57:=rfl;rw[e1,e2,e3,e4];omega
theorem asY(s:ByteArray)(hs:s.size<=140737488355328)(w:World) :
 Calls prog 56 #[.string s] w (aUZ w (.bool (Np.bT s.data.toList))):=by
 go_enter func56,ntmps56;go_wp2;go_loop [3] (λi=>∃ k:Nat,k<=s.size/\i = .int .i64 k/\Hid (∀ j,j<k->vk s.data.toList j)) (λi=>s.size - (intOf i).toNat)
 case atStart=>exact⟨0,jQ _,rfl,jq (λj h=>by omega)⟩
 case round=>
  obtain⟨k,hk,rfl,HA⟩:=hrel;by_cases af:k<s.size
  ·have hb:=AN s[k];have HN:=jq (anJ s k af);have zX:vk s.data.toList k->∀ j,j<k+1->vk s.data.toList j:=λh j hj=>by
    by_cases e:j=k
    ·subst e;exact h
    ·exact HA.out j (by omega)
   have HX:=jq zX;clear zX;have dS:(0:Int)<=k:=by omega
   by_cases sD:(s[k].toNat:Int)=45
   ·have hE:((s[k].toNat:Int) == 45)=true:=by simp[sD]
    have Eg:=jq sD;have C8:(s[k].toNat:Int)<48:=by omega
    have a3Q:(s[k].toNat:Int)<97:=by omega
    clear sD;by_cases hin:0<k/\k+1<s.size
    ·obtain⟨h1,h2⟩:=hin;have h3:(0:Int)<k:=by omega
     have h4:(k:Int)<(s.size:Int) - 1:=by omega
     go_wp2;go_round
     case rel=>exact⟨k+1,by omega,by go_num,jq (HX.out (HN.out.2 (.inr (.inr ⟨Eg.out,h1,h2⟩))))⟩
     ·simp[intOf]<;>omega
    ·have HI:=jq hin;clear hin;go_wp2
     all_goals first
      | (go_ret
         exact⟨aw (Pm (by rw[be];exact af) (λh=>by have:=HN.out.1 h;have:=HI.out;omega)).symm,rfl⟩)
      | (exfalso;have:=HI.out;omega)
   ·have hE:((s[k].toNat:Int) == 45)=false:=by simp[sD]
    have Eg:=jq sD;clear sD;go_wp2
    all_goals first
     | (go_ret
        exact⟨aw (Pm (by rw[be];exact af) (λh=>by have:=HN.out.1 h;have:=Eg.out;omega)).symm,rfl⟩)
     | (go_round
        case rel=>exact⟨k+1,by omega,by go_num,jq (HX.out (HN.out.2 (by omega)))⟩
        case measure=>simp[intOf]<;>omega)
  ·have hf:Np.bT s.data.toList=(decide (1<=s.size)&&decide (s.size<=12)):=adY (λj hj=>HA.out j (by rw[be] at hj;omega));have HF:=jq hf;clear hf;go_wp2
   all_goals
    go_ret;exact⟨aw (by rw[HF.out,Bool.eq_iff_iff];simp;omega),rfl⟩
theorem aM{α:Type}{R:aUJ α}{sz:Nat}{w:World}{B:Nat}{v:Value}{xs:List α}(h:SlR R sz w B v xs):∃ A n c,v = .slice A n c/\xs.length=n/\n<=c/\n<=140737488355328:=by
 obtain⟨A,c,h1,h2,h3⟩:=fc h;exact⟨A,_,c,h1,rfl,h2,h3⟩
def bO(W:World)(B:Nat)(e:List Value)(x:Np.DSet):Prop:=∃ (s:ByteArray) (v:Value),s.data.toList=x.name/\s.size<=140737488355328/\SlR bS 3 W B v x.data/\e = [.string s,.int .i64 x.type,.int .i64 x.life,v]
theorem eR:eh bO:=λ_ _ _ _ _ ⟨s,v,h1,h2,h3,h5⟩ hb=>⟨s,v,h1,h2,h3.keep br hb,h5⟩
theorem jG:eI bO:=λ_ _ _ _ _ ⟨s,v,h1,h2,h3,h5⟩ hb=>⟨s,v,h1,h2,h3.more bB hb,h5⟩
theorem xG{w:World}{B:Nat}{v:Value}{xs:List Np.DSet}(h:SlR bO 4 w B v xs){k:Nat}{x:Np.DSet}(hx:xs[k]?=some x):∃ (b o c:Nat) (s:ByteArray) (dv:Value),v = .slice (some ⟨b,o,none⟩) xs.length c/\b<B/\xs.length<=c/\s.data.toList=x.name/\s.size<=140737488355328/\SlR bS 3 w B dv x.data/\
 w.cell? ⟨b,o+k * 4,none⟩=some (.string s)/\w.cell? ⟨b,o+k * 4+1,none⟩=some (.int .i64 x.type)/\w.cell? ⟨b,o+k * 4+2,none⟩=some (.int .i64 x.life)/\w.cell? ⟨b,o+k * 4+3,none⟩=some dv:=by
 obtain⟨A,c,rfl,hc,_,he⟩:=h;obtain⟨b,o,e,rfl,hb,_,hce,s,dv,h1,h2,h3,rfl⟩:=he k x hx;exact⟨b,o,c,s,dv,rfl,hb,hc,h1,h2,h3,by have:=hce 0 _ rfl;simpa using this,hce 1 _ rfl,hce 2 _ rfl,hce 3 _ rfl⟩
theorem bD{w w':World}{r:List Value}{T:TypeId}{Q:Nat}(hQ:w.heap.size=Q)(h:w.alloc (.cells r.toArray T)=w'):∀ (j:Nat) u,r[j]?=some u->w'.cell? ⟨Q,j,none⟩=some u:=λj u hj=>by
 subst hQ;rw[<-h]
 have:=heap_alloc_new w (.cells r.toArray T)
 unfold World.cell?;dsimp only;rw[this];simpa using hj
end
section
open Go.RowKit Go.Shelf
section
variable {α:Type}
def mc(p:α->Bool):List α->Int
 | []=>-1
 | x::xs=>if p x then 0 else if mc p xs = -1 then -1 else mc p xs+1
theorem My(p:α->Bool)(xs:List α)(h:∀ x∈xs,p x=false):mc p xs = -1:=by
 induction xs with
 | nil=>rfl
 | cons x r ih=>rw[mc,Qc (by simp[h x (by simp)]),QbQ (ih (λy hy=>h y (by simp[hy])))]
theorem Mw(p:α->Bool)(xs:List α)(k:Nat)(hk:k<xs.length)(h:∀ x∈xs.take k,p x=false)(hx:p xs[k]=true):mc p xs=k:=by
 induction xs generalizing k with
 | nil=>simp at hk
 | cons x r ih=>
  cases k with
  | zero=>simp at hx;simp[mc,hx]
  | succ k=>
   have h0:p x=false:=h x (by simp)
   have:=ih k (by simpa using hk) (λy hy=>h y (by simp[hy])) (by simpa using hx)
   rw[mc,Qc (by simp[h0]),Qc (by omega),this];simp
theorem Mx(p:α->Bool)(xs:List α):decide (0<=mc p xs)=xs.any p:=by
 induction xs with
 | nil=>rfl
 | cons x r ih=>
  rw[mc];by_cases h:p x=true
  ·simp[h]
  ·rw[Qc h];have h':p x=false:=by simpa using h
   rw[List.any_cons,h',Bool.false_or,<-ih];split
   ·rename_i e;rw[e]
   ·rename_i e;have : -1<=mc p r:=by
     clear ih h h' e
     induction r with
     | nil=>simp[mc]
     | cons y r ih2=>rw[mc];split;omega;split<;>omega
    rw[Bool.eq_iff_iff];simp;omega
end
end
section
open Go.RowKit
variable {α:Type}
def LQ(R:aUJ α)(B:Nat)(w:World)(f:FuncId)(cap:Array Value)(p:α->Bool)(xs:List α):Prop:=
 ∀ (W:World) (x:α) (e0 e1 e2 e3 e4 e5:Value),x∈xs->Below B w W->B<=W.heap.size->R W B [e0,e1,e2,e3,e4,e5] x->Calls prog f (#[.agg #[e0,e1,e2,e3,e4,e5]]++cap) W λe w'=>e = .returned (.bool (p x))/\Below W.heap.size W w'
theorem abQ{R:aUJ α}(hK:eh R)(f:FuncId)(eg:∀ args w,(callFunc f args).run prog w = .ok (.enter f args) w)(cap:Array Value)(p:α->Bool)(v:Value)(xs:List α)(w:World)(B:Nat)(hB:B<=w.heap.size)(h:SlR R 6 w B v xs)
 (hp:LQ R B w f cap p xs) :
 Calls prog 303 #[v,.func (.func f) #[] cap] w (aUQ w.heap.size w (.int .i64 (mc p xs))):=by
 have H:=jq h;have HP:=jq hp;obtain⟨A,c,rfl,bi,fD,cp⟩:=h;clear cp hp;go_enter func303,ntmps303;go_wp2_with fail;go_loopw [8] (λi wr=>∃ k:Nat,k<=xs.length/\i = .int .i64 k/\Below w.heap.size w wr/\Hid (∀ x∈xs.take k,p x=false)) (λi _=>xs.length - (intOf i).toNat)
 case atStart=>exact⟨0,jQ _,rfl,vQ _ _,jq (by simp)⟩
 case round=>
  obtain⟨k,hk,rfl,hb,HA⟩:=hrel;by_cases af:k<xs.length
  ·have eU:=hb.mono hB;obtain⟨A',c',hA',_,_,dH⟩:=H.out.keep hK eU
   cases hA'
   obtain⟨b,o,e,rfl,dB,hlen,hce,hR⟩:=dH k _ (aQ af)
   match e,hlen with
   | [e0,e1,e2,e3,e4,e5],_=>
   have h0:wr.cell? ⟨b,o+k * 6,none⟩=some e0:=hce 0 _ rfl;have h1:wr.cell? ⟨b,o+k * 6+1,none⟩=some e1:=hce 1 _ rfl;have h2:wr.cell? ⟨b,o+k * 6+2,none⟩=some e2:=hce 2 _ rfl;have h3:wr.cell? ⟨b,o+k * 6+3,none⟩=some e3:=hce 3 _ rfl;have h4:wr.cell? ⟨b,o+k * 6+4,none⟩=some e4:=hce 4 _ rfl;have h5:wr.cell? ⟨b,o+k * 6+5,none⟩=some e5:=hce 5 _ rfl;have cO:=HP.out wr xs[k] e0 e1 e2 e3 e4 e5 (List.getElem_mem af) eU (by have:=hb.size;omega) hR;have HC:=jq cO;have dW:=jq hb;clear dH hce hR cO eU hb;go_wp2_with (fail);refine HC.out.mono ?_;rintro e w2 ⟨rfl,ag⟩;have ax:=jq ag;clear ag;by_cases bw:p xs[k]=true
   ·have HX:=jq bw;go_wp2_with (fail);go_ret;exact⟨jb (Mw p xs k af HA.out HX.out).symm,dW.out.trans (ax.out.mono dW.out.size)⟩
   ·have pW:p xs[k]=false:=by simpa using bw
    have HX:=jq pW;clear bw;go_wp2_with (fail);go_roundw
    case rel=>
     refine⟨k+1,by omega,by go_num,dW.out.trans (ax.out.mono dW.out.size),jq ?_⟩;rw[fQ af];intro x hx;rcases List.mem_append.1 hx with h | h
     ·exact HA.out x h
     ·simp at h;subst h;exact HX.out
    case measure=>simp[intOf]<;>omega
  ·go_wp2_with fail;go_ret;exact⟨jb (My p xs (by have:=HA.out;rwa [kQ (by omega)] at this)).symm,hb⟩
theorem Ww{R:aUJ α}(hK:eh R)(f:FuncId)(eg:∀ args w,(callFunc f args).run prog w = .ok (.enter f args) w)(cap:Array Value)(p:α->Bool)(v:Value)(xs:List α)(w:World)(B:Nat)(hB:B<=w.heap.size)(h:SlR R 6 w B v xs)
 (hp:LQ R B w f cap p xs) :
 Calls prog 281 #[v,.func (.func f) #[] cap] w (aUQ w.heap.size w (.bool (xs.any p))):=by
 have H:=jq h;have HP:=jq hp;have HE:=jq eg;clear h hp eg;go_enter func281,ntmps281;go_wp2_with (go_at_call 303;refine (abQ hK f HE.out cap p v xs w B hB H.out HP.out).mono ?_;rintro e w' ⟨rfl,hb⟩);go_ret;exact⟨aw (Mx p xs),hb⟩
end
end Go.Proofs.YtadhigmjilijcaaGreatDoor
