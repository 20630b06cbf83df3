/- Parts of the proof. No condition. -/
import Derived.Laws.StructEq
import Derived.Test.YtbfbobfbgabjiaaGreatDoorM07
set_option linter.all false
set_option maxRecDepth 100000
set_option maxHeartbeats 8000000
namespace Go.Proofs.YtbfbobfbgabjiaaGreatDoor
open Go.Proofs.Tryz
section
open Go.RowKit Go.Shelf
section
variable {α:Type}
def kP(p:α->Bool):List α->Int
 | []=>-1
 | x::xs=>if p x then 0 else if kP p xs = -1 then -1 else kP p xs+1
theorem Dz(p:α->Bool)(xs:List α)(h:∀ x∈xs,p x=false):kP p xs = -1:=by
 induction xs with
 | nil=>rfl
 | cons x r ih=>rw[kP,Qc (by simp[h x (by simp)]),Qb (ih (λy hy=>h y (by simp[hy])))]
theorem DQ(p:α->Bool)(xs:List α)(k:Nat)(hk:k<xs.length)(h:∀ x∈xs.take k,p x=false)(hx:p xs[k]=true):kP p xs=k:=by
 induction xs generalizing k with
 | nil=>simp at hk
 | cons x r ih=>
  cases k with
  | zero=>simp at hx; simp[kP,hx]
  | succ k=>
   have h0:p x=false:=h x (by simp)
   have:=ih k (by simpa using hk) (λy hy=>h y (by simp[hy])) (by simpa using hx)
   rw[kP,Qc (by simp[h0]),Qc (by omega),this];simp
theorem OR(p:α->Bool)(xs:List α):decide (0<=kP p xs)=xs.any p:=by
 induction xs with
 | nil=>rfl
 | cons x r ih=>
  rw[kP];by_cases h:p x=true
  ·simp[h]
  ·rw[Qc h];have h':p x=false:=by simpa using h
   rw[List.any_cons,h',Bool.false_or,<-ih];split
   ·rename_i e; rw[e]
   ·rename_i e;have : -1<=kP p r:=by
     clear ih h h' e
     induction r with
     | nil=>simp[kP]
     | cons y r ih2=>rw[kP]; split; omega; split <;> omega
    rw[Bool.eq_iff_iff]; simp; omega
def NG(R:World->Nat->List Value->α->Prop)(B:Nat)(w:World)(f:FuncId)(cap:Array Value)(p:α->Bool)(xs:List α):Prop:=
 ∀ (W:World) (x:α) (e0 e1:Value),x∈xs->Below B w W->B<=W.heap.size->R W B [e0,e1] x->Calls prog f (#[.agg #[e0,e1]]++cap) W λe w'=>e = .returned (.bool (p x))/\Below W.heap.size W w'
theorem Ub{R:World->Nat->List Value->α->Prop}(hK:dK R)(f:FuncId)(eg:∀ args w,(callFunc f args).run prog w = .ok (.enter f args) w)(cap:Array Value)(p:α->Bool)(v:Value)(xs:List α)(w:World)(B:Nat)(hB:B<=w.heap.size)(h:SlR R 2 w B v xs)
 (hp:NG R B w f cap p xs) :
 Calls prog 133 #[v,.func (.func f) #[] cap] w λe w'=>e = .returned (.int .i64 (kP p xs))/\Below w.heap.size w w':=by
 have H:=jq h;have HP:=jq hp;obtain⟨A,c,rfl,bC,bH,jP⟩:=h;clear jP hp;go_enter func133,ntmps133;go_wp2_with fail;go_loopw [8] (λi wr=>∃ k:Nat,k<=xs.length/\i = .int .i64 k/\Below w.heap.size w wr/\Hid (∀ x∈xs.take k,p x=false)) (λi _=>xs.length - (intOf i).toNat)
 case atStart=>exact⟨0,jQ _,rfl,vQ _ _,jq (by simp)⟩
 case round=>
  obtain⟨k,hk,rfl,hb,HA⟩:=hrel;by_cases ab:k<xs.length
  ·have bg:=hb.mono hB;obtain⟨A',c',hA',_,_,bU⟩:=H.out.keep hK bg
   cases hA'
   obtain⟨b,o,e,rfl,cD,hlen,hce,hR⟩:=bU k _ (aQ ab)
   match e,hlen with
   | [e0,e1],_=>
   have h0:wr.cell? ⟨b,o+k * 2,none⟩=some e0:=hce 0 _ rfl;have h1:wr.cell? ⟨b,o+k * 2+1,none⟩=some e1:=hce 1 _ rfl;have bT:=HP.out wr xs[k] e0 e1 (List.getElem_mem ab) bg (by have:=hb.size; omega) hR;have HC:=jq bT;have dE:=jq hb;clear bU hce hR bT bg hb;go_wp2_with (fail);refine HC.out.mono ?_;rintro e w2 ⟨rfl,aa⟩;have ak:=jq aa;clear aa;by_cases cC:p xs[k]=true
   ·have HX:=jq cC;go_wp2_with (fail);go_ret;exact⟨ik (DQ p xs k ab HA.out HX.out).symm,dE.out.trans (ak.out.mono dE.out.size)⟩
   ·have zC:p xs[k]=false:=by simpa using cC
    have HX:=jq zC;clear cC;go_wp2_with (fail);go_roundw
    case rel=>
     refine⟨k+1,by omega,by go_num,dE.out.trans (ak.out.mono dE.out.size),jq ?_⟩;rw[fQ ab];intro x hx;rcases List.mem_append.1 hx with h | h
     ·exact HA.out x h
     ·simp at h; subst h; exact HX.out
    case measure=>simp[intOf] <;> omega
  ·go_wp2_with fail;go_ret;exact⟨ik (Dz p xs (by have:=HA.out; rwa [kQ (by omega)] at this)).symm,hb⟩
theorem Ts{R:World->Nat->List Value->α->Prop}(hK:dK R)(f:FuncId)(eg:∀ args w,(callFunc f args).run prog w = .ok (.enter f args) w)(cap:Array Value)(p:α->Bool)(v:Value)(xs:List α)(w:World)(B:Nat)(hB:B<=w.heap.size)(h:SlR R 2 w B v xs)
 (hp:NG R B w f cap p xs) :
 Calls prog 77 #[v,.func (.func f) #[] cap] w λe w'=>e = .returned (.bool (xs.any p))/\Below w.heap.size w w':=by
 have H:=jq h;have HP:=jq hp;have HE:=jq eg;clear h hp eg;go_enter func77,ntmps77;go_wp2_with (go_at_call 133; refine (Ub hK f HE.out cap p v xs w B hB H.out HP.out).mono ?_; rintro e w' ⟨rfl,hb⟩);go_ret;exact⟨aj (OR p xs),hb⟩
def Xb(R:World->Nat->List Value->α->Prop)(B:Nat)(w:World)(f:FuncId)(cap:Array Value)(p:α->Bool)(xs:List α):Prop:=
 ∀ (W:World) (x:α) (e0 e1 e2:Value),x∈xs->Below B w W->B<=W.heap.size->R W B [e0,e1,e2] x->Calls prog f (#[.agg #[e0,e1,e2]]++cap) W λe w'=>e = .returned (.bool (p x))/\Below W.heap.size W w'
theorem Uc{R:World->Nat->List Value->α->Prop}(hK:dK R)(f:FuncId)(eg:∀ args w,(callFunc f args).run prog w = .ok (.enter f args) w)(cap:Array Value)(p:α->Bool)(v:Value)(xs:List α)(w:World)(B:Nat)(hB:B<=w.heap.size)(h:SlR R 3 w B v xs)
 (hp:Xb R B w f cap p xs) :
 Calls prog 68 #[v,.func (.func f) #[] cap] w λe w'=>e = .returned (.int .i64 (kP p xs))/\Below w.heap.size w w':=by
 have H:=jq h;have HP:=jq hp;obtain⟨A,c,rfl,bC,bH,jP⟩:=h;clear jP hp;go_enter func68,ntmps68;go_wp2_with fail;go_loopw [8] (λi wr=>∃ k:Nat,k<=xs.length/\i = .int .i64 k/\Below w.heap.size w wr/\Hid (∀ x∈xs.take k,p x=false)) (λi _=>xs.length - (intOf i).toNat)
 case atStart=>exact⟨0,jQ _,rfl,vQ _ _,jq (by simp)⟩
 case round=>
  obtain⟨k,hk,rfl,hb,HA⟩:=hrel;by_cases ab:k<xs.length
  ·have bg:=hb.mono hB;obtain⟨A',c',hA',_,_,bU⟩:=H.out.keep hK bg
   cases hA'
   obtain⟨b,o,e,rfl,cD,hlen,hce,hR⟩:=bU k _ (aQ ab)
   match e,hlen with
   | [e0,e1,e2],_=>
   have h0:wr.cell? ⟨b,o+k * 3,none⟩=some e0:=hce 0 _ rfl;have h1:wr.cell? ⟨b,o+k * 3+1,none⟩=some e1:=hce 1 _ rfl;have h2:wr.cell? ⟨b,o+k * 3+2,none⟩=some e2:=hce 2 _ rfl;have bT:=HP.out wr xs[k] e0 e1 e2 (List.getElem_mem ab) bg (by have:=hb.size; omega) hR;have HC:=jq bT;have dE:=jq hb;clear bU hce hR bT bg hb;go_wp2_with (fail);refine HC.out.mono ?_;rintro e w2 ⟨rfl,aa⟩;have ak:=jq aa;clear aa;by_cases cC:p xs[k]=true
   ·have HX:=jq cC;go_wp2_with (fail);go_ret;exact⟨ik (DQ p xs k ab HA.out HX.out).symm,dE.out.trans (ak.out.mono dE.out.size)⟩
   ·have zC:p xs[k]=false:=by simpa using cC
    have HX:=jq zC;clear cC;go_wp2_with (fail);go_roundw
    case rel=>
     refine⟨k+1,by omega,by go_num,dE.out.trans (ak.out.mono dE.out.size),jq ?_⟩;rw[fQ ab];intro x hx;rcases List.mem_append.1 hx with h | h
     ·exact HA.out x h
     ·simp at h; subst h; exact HX.out
    case measure=>simp[intOf] <;> omega
  ·go_wp2_with fail;go_ret;exact⟨ik (Dz p xs (by have:=HA.out; rwa [kQ (by omega)] at this)).symm,hb⟩
end
def cV(_:World)(_:Nat)(e:List Value)(x:Np.Span):Prop:=e = [.int .i64 x.frm,.int .i64 x.til]
theorem fE:dK cV:=λ_ _ _ _ _ h _=>h
theorem jY:dV cV:=λ_ _ _ _ _ h _=>h
def Np.tF(l:List Np.Span)(t:Int):Bool:=l.any λs=>decide (s.frm<=t)&&decide (t<s.til)
theorem YZ(b:Nat)(t f u:Int)(w:World)(h:w.cell? ⟨b,0,none⟩=some (.int .i64 t)) :
 Calls prog 78 #[.agg #[.int .i64 f,.int .i64 u],.pointer (some ⟨b,0,none⟩)] w λe w'=>e = .returned (.bool (decide (f<=t)&&decide (t<u)))/\Below w.heap.size w w':=by
 have lb:=World.block_lt_of_cell? w _ h;simp only at lb;go_enter func78,ntmps78;go_wp2_with fail
 all_goals
  go_ret;go_light;refine⟨aj ?_,(vQ _ w).alloc (bQ _) _⟩;simp_all <;> (intros; omega)
theorem O7(v:Value)(l:List Np.Span)(t:Int)(w:World)(h:SlR cV 2 w w.heap.size v l) :
 Calls prog 31 #[v,.int .i64 t] w λe w'=>e = .returned (.bool (Np.tF l t))/\Below w.heap.size w w':=by
 have H:=jq h;obtain⟨A,c,rfl,bC,bH,jP⟩:=h;clear jP;have da:∀ o,Below w.heap.size w (w.alloc o):=λo=>(vQ _ w).alloc (bQ _) _;have aD:=jq da;clear da;go_enter func31,ntmps31;go_wp2_with fail;refine (Ts (R:=cV) fE 78 (enters_of func78 (by kernel_rfl) rfl) _ (λs=>decide (s.frm<=t)&&decide (t<s.til)) _ l _ _ (bQ _) ?_ ?_).mono ?_
 ·exact (H.out.keep fE (aD.out _)).more jY (by simp)
 ·intro W x e0 e1 hx hW vM Fq;simp only[cV,List.cons.injEq,and_true] at Fq;obtain⟨rfl,rfl⟩:=Fq;refine YZ w.heap.size t x.frm x.til W ?_;rw[hW.cell (by simp)]; go_simp
 ·rintro e w1 ⟨rfl,hb⟩;have HB:=jq hb;clear hb;go_wp2_with fail;go_ret;exact⟨rfl,(aD.out _).trans (HB.out.mono (by simp))⟩
end
section
open Go.RowKit
section
variable {α:Type}
def Oj(R:World->Nat->List Value->α->Prop)(B:Nat)(w:World)(f:FuncId)(cap:Array Value)(p:α->Bool)(xs:List α):Prop:=
 ∀ (W:World) (x:α) (e0:Value),x∈xs->Below B w W->B<=W.heap.size->R W B [e0] x->Calls prog f (#[e0]++cap) W λe w'=>e = .returned (.bool (p x))/\Below W.heap.size W w'
theorem UU{R:World->Nat->List Value->α->Prop}(hK:dK R)(f:FuncId)(eg:∀ args w,(callFunc f args).run prog w = .ok (.enter f args) w)(cap:Array Value)(p:α->Bool)(v:Value)(xs:List α)(w:World)(B:Nat)(hB:B<=w.heap.size)(h:SlR R 1 w B v xs)
 (hp:Oj R B w f cap p xs) :
 Calls prog 197 #[v,.func (.func f) #[] cap] w λe w'=>e = .returned (.int .i64 (kP p xs))/\Below w.heap.size w w':=by
 have H:=jq h;have HP:=jq hp;obtain⟨A,c,rfl,bC,bH,jP⟩:=h;clear jP hp;go_enter func197,ntmps197;go_wp2_with fail;go_loopw [8] (λi wr=>∃ k:Nat,k<=xs.length/\i = .int .i64 k/\Below w.heap.size w wr/\Hid (∀ x∈xs.take k,p x=false)) (λi _=>xs.length - (intOf i).toNat)
 case atStart=>exact⟨0,jQ _,rfl,vQ _ _,jq (by simp)⟩
 case round=>
  obtain⟨k,hk,rfl,hb,HA⟩:=hrel;by_cases ab:k<xs.length
  ·have bg:=hb.mono hB;obtain⟨A',c',hA',_,_,bU⟩:=H.out.keep hK bg
   cases hA'
   obtain⟨b,o,e,rfl,cD,hlen,hce,hR⟩:=bU k _ (aQ ab)
   match e,hlen with
   | [e0],_=>
   have h0:wr.cell? ⟨b,o+k,none⟩=some e0:=by have:=hce 0 _ rfl; simpa using this
   have bT:=HP.out wr xs[k] e0 (List.getElem_mem ab) bg (by have:=hb.size; omega) hR;have HC:=jq bT;have dE:=jq hb;clear bU hce hR bT bg hb;go_wp2_with (fail);refine HC.out.mono ?_;rintro e w2 ⟨rfl,aa⟩;have ak:=jq aa;clear aa;by_cases cC:p xs[k]=true
   ·have HX:=jq cC;go_wp2_with (fail);go_ret;exact⟨ik (DQ p xs k ab HA.out HX.out).symm,dE.out.trans (ak.out.mono dE.out.size)⟩
   ·have zC:p xs[k]=false:=by simpa using cC
    have HX:=jq zC;clear cC;go_wp2_with (fail);go_roundw
    case rel=>
     refine⟨k+1,by omega,by go_num,dE.out.trans (ak.out.mono dE.out.size),jq ?_⟩;rw[fQ ab];intro x hx;rcases List.mem_append.1 hx with h | h
     ·exact HA.out x h
     ·simp at h; subst h; exact HX.out
    case measure=>simp[intOf] <;> omega
  ·go_wp2_with fail;go_ret;exact⟨ik (Dz p xs (by have:=HA.out; rwa [kQ (by omega)] at this)).symm,hb⟩
theorem TF{R:World->Nat->List Value->α->Prop}(hK:dK R)(f:FuncId)(eg:∀ args w,(callFunc f args).run prog w = .ok (.enter f args) w)(cap:Array Value)(p:α->Bool)(v:Value)(xs:List α)(w:World)(B:Nat)(hB:B<=w.heap.size)(h:SlR R 1 w B v xs)
 (hp:Oj R B w f cap p xs) :
 Calls prog 131 #[v,.func (.func f) #[] cap] w λe w'=>e = .returned (.bool (xs.any p))/\Below w.heap.size w w':=by
 have H:=jq h;have HP:=jq hp;have HE:=jq eg;clear h hp eg;go_enter func131,ntmps131;go_wp2_with (go_at_call 197; refine (UU hK f HE.out cap p v xs w B hB H.out HP.out).mono ?_; rintro e w' ⟨rfl,hb⟩);go_ret;exact⟨aj (OR p xs),hb⟩
end
theorem Xv(n:Int)(w:World) :
 Calls prog 132 #[.int .i64 n] w λe w'=>e = .returned (.bool (!Np.me n))/\Below w.heap.size w w':=by
 obtain⟨q,hq⟩:∃ q,Np.me n=q:=⟨_,rfl⟩;have HC:Hid (∀ w,Calls prog 129 #[.int .i64 n] w λe w'=>e = .returned (.bool q)/\w=w'):=jq (λw=>by rw[<-hq]; exact Gg _ _);rw[hq];clear hq
 cases q
 all_goals
  go_enter func132,ntmps132;go_wp2_with (go_at_call 129; refine (HC.out _).mono ?_; rintro e w' ⟨rfl,rfl⟩);go_ret;exact⟨rfl,vQ _ _⟩
theorem T1(s:ByteArray)(hs:s.size<=140737488355328)(ty life:Int)(dv:Value)(d:List Np.Datum)(hv:Value)(hints:List Int)(w:World)(hR:iW w w.heap.size)(hd:SlR cG 3 w w.heap.size dv d)(hh:SlR ip 1 w w.heap.size hv hints) :
 Calls prog 75 #[.agg #[.string s,.int .i64 ty,.int .i64 life,dv],hv] w λe w'=>e = .returned (.bool (Np.yes (Np.VRoot ⟨s.data.toList,ty,life,d⟩ hints)))/\Below w.heap.size w w':=by
 obtain⟨r,hr⟩:∃ r,Np.yes (Np.VRoot ⟨s.data.toList,ty,life,d⟩ hints)=r:=⟨_,rfl⟩;rw[hr];have HR:=jq hr;have HD:=jq hd;have HH:=jq hh;have gN:=jq hR;obtain⟨A,c,rfl,bC,bH⟩:=ag hd;obtain⟨A2,c2,rfl,eB,dz⟩:=ag hh;clear hr hd hh hR;have HW:Hid (∀ o,Below w.heap.size w (w.alloc o)):=jq (λo=>(vQ _ w).alloc (bQ _) _);go_enter func75,ntmps75;go_wp2_with fail;refine (Mi s hs ty life _ d _ ((gN.out.keep (HW.out _)).more (by simp)) (HD.out.later cL dp (HW.out _))).mono ?_;rintro e w1 ⟨rfl,aq⟩;have bI:w.heap.size<w1.heap.size:=by have:=aq.size; simp at this; omega
 have c0:w1.cell? ⟨w.heap.size,0,none⟩=some (.string s):=by rw[aq.cell (by simp)]; go_simp
 have c1:w1.cell? ⟨w.heap.size,1,none⟩=some (.int .i64 ty):=by rw[aq.cell (by simp)]; go_simp
 have aF:=jq ((HW.out _).trans (aq.mono (by simp)));clear aq;obtain⟨n,hn⟩:∃ n,hints.length=n:=⟨_,rfl⟩;have HN:=jq hn;rw[hn] at HH eB dz |-;clear hn
 cases fZ:Np.ee ⟨s.data.toList,ty,life,d⟩ with
 | false=>
  have HX:Hid (r=false):=jq (by rw[<-HR.out]; exact Np.aP λq=>by have:=q.set; rw[fZ] at this; cases this);clear fZ;go_wp2_with fail;go_ret;exact⟨aj HX.out.symm,aF.out⟩
 | true=>
  have lh:=jq fZ;clear fZ;by_cases h6:ty=6
  ·by_cases oa:s.data.toList = [46]
   ·have ID:(!s.toList == [46])=false:=by rw[dQ,oa]; rfl
    have BM:(ty != 6)=false:=by simpa using h6
    have JB:=jq oa;have H6:=jq h6;clear oa h6;by_cases aJ:n<1
    ·have HX:Hid (r=false):=jq (by rw[<-HR.out]; exact Np.aP λq=>by have:=q.few; rw[HN.out] at this; omega);have g1:decide ((n:Int)<1)=true:=by simp; omega
     clear aJ;go_wp2_with fail;go_ret;exact⟨aj HX.out.symm,aF.out⟩
    ·have g1:decide ((n:Int)<1)=false:=by simp; omega
     by_cases zd:8<n
     ·have HX:Hid (r=false):=jq (by rw[<-HR.out]; exact Np.aP λq=>by have:=q.few; rw[HN.out] at this; omega);have g2:decide ((8:Int)<(n:Int))=true:=by simp; omega
      clear aJ zd;go_wp2_with fail;go_ret;exact⟨aj HX.out.symm,aF.out⟩
     ·have g2:decide ((8:Int)<(n:Int))=false:=by simp; omega
      have dh:Hid (1<=n/\n<=8):=jq (by omega);clear aJ zd;have eg:∀ args w,(callFunc 132 args).run prog w = .ok (.enter 132 args) w:=enters_of func132 (by kernel_rfl) rfl;have HEG:=jq eg;clear eg;go_wp2_with fail;have eM:=HH.out.keep iU aF.out;rw[<-HN.out] at eM |-;refine (TF (R:=ip) iU 132 HEG.out #[] (λn=>!Np.me n) _ hints w1 w.heap.size (by omega) eM (λW x e0 _ _ _ hx=>by
       have hx : [e0] = [Value.int .i64 x]:=hx
       cases hx
       exact Xv x W)).mono ?_
      rintro e w2 ⟨rfl,aa⟩;have ak:=jq (aF.out.trans (aa.mono (by omega)));clear aa;have HQ:Hid ((hints.any λn=>!Np.me n)=!r):=jq (by
       rw[<-HR.out]
       cases ha:hints.any λn=>!Np.me n with
       | true=>
        obtain⟨x,hx,hb⟩:=List.any_eq_true.1 ha;rw[Np.aP λq=>?_]; rfl
        have:=q.each x hx
        simp[Np.me] at hb;omega
       | false=>
        rw[Np.bO]; rfl;refine⟨lh.out,H6.out,JB.out,by have:=dh.out; rw[HN.out]; exact this,λx hx=>?_⟩
        have:=List.any_eq_false.1 ha x hx
        simpa [Np.me] using this)
      rw[HQ.out];clear HQ
      cases r
      all_goals
       go_wp2_with fail;go_ret;exact⟨rfl,ak.out⟩
   ·have HX:Hid (r=false):=jq (by rw[<-HR.out]; exact Np.aP λq=>oa q.name);have ID:(!s.toList == [46])=true:=by rw[dQ]; simpa using oa
    have BM:(ty != 6)=false:=by simpa using h6
    clear oa h6;go_wp2_with fail;go_ret;exact⟨aj HX.out.symm,aF.out⟩
  ·have HX:Hid (r=false):=jq (by rw[<-HR.out]; exact Np.aP λq=>h6 q.type);have BM:(ty != 6)=true:=by simpa using h6
   clear h6;go_wp2_with fail;go_ret;exact⟨aj HX.out.symm,aF.out⟩
theorem UE(s:ByteArray)(hs:s.size<=140737488355328)(ty life:Int)(dv:Value)(d:List Np.Datum)(hv:Value)(hints:List Int)(w:World)(hd:SlR cG 3 w w.heap.size dv d)(hh:SlR ip 1 w w.heap.size hv hints) :
 Calls prog 60 #[.agg #[.string s,.int .i64 ty,.int .i64 life,dv],hv] w λe w'=>e = .returned (.bool (Np.yes (Np.VRoot ⟨s.data.toList,ty,life,d⟩ hints)))/\Below w.heap.size w w':=by
 obtain⟨r,hr⟩:∃ r,Np.yes (Np.VRoot ⟨s.data.toList,ty,life,d⟩ hints)=r:=⟨_,rfl⟩;rw[hr];have HR:=jq hr;have HD:=jq hd;have HH:=jq hh;obtain⟨A,c,rfl,bC,bH⟩:=ag hd;obtain⟨A2,c2,rfl,eB,dz⟩:=ag hh;clear hr hd hh;have HW:Hid (∀ o,Below w.heap.size w (w.alloc o)):=jq (λo=>(vQ _ w).alloc (bQ _) _);go_enter func60,ntmps60;go_wp2_with fail;obtain⟨w1,al⟩:∃ w1,w.alloc (.cells #[.string s,.int .i64 ty,.int .i64 life,.slice A d.length c] 26)=w1:=⟨_,rfl⟩;have c0:w1.cell? ⟨w.heap.size,0,none⟩=some (.string s):=by rw[<-al]; simp[go_sem]
 have c1:w1.cell? ⟨w.heap.size,1,none⟩=some (.int .i64 ty):=by rw[<-al]; simp[go_sem]
 have c2':w1.cell? ⟨w.heap.size,2,none⟩=some (.int .i64 life):=by rw[<-al]; simp[go_sem]
 have c3:w1.cell? ⟨w.heap.size,3,none⟩=some (.slice A d.length c):=by rw[<-al]; simp[go_sem]
 have bI:w1.heap.size=w.heap.size+1:=by rw[<-al]; simp
 have aF:Hid (Below w.heap.size w w1):=jq (by rw[<-al]; exact HW.out _);rw[al];clear al;obtain⟨n,hn⟩:∃ n,hints.length=n:=⟨_,rfl⟩;have HN:=jq hn;rw[hn] at HH eB dz |-;clear hn;go_loopw [5] (λi wr=>∃ k:Nat,k<=n/\i = .int .i64 k/\wr=w1/\Hid (∀ j x,j<k->hints[j]?=some x->1<=x/\x<=1000000)) (λi _=>n - (intOf i).toNat)
 case atStart=>exact⟨0,jQ _,rfl,rfl,jq (λj x hj=>by omega)⟩
 case round=>
  obtain⟨k,hk,rfl,rfl,HA⟩:=hrel;by_cases ab:k<n
  ·obtain⟨x,ac⟩:∃ x,hints[k]?=some x:=⟨_,aQ (by rw[HN.out]; exact ab)⟩;obtain⟨b,o,rfl,bg,f0⟩:=If (HH.out.keep iU aF.out) ac;have ir:Hid (1<=x/\x<=1000000->∀ j y,j<k+1->hints[j]?=some y->1<=y/\y<=1000000):=jq (λh j y hj hy=>by
    by_cases e:j=k
    ·subst e; rw[ac] at hy; cases hy; exact h
    ·exact HA.out j y (by omega) hy)
   have HF:Hid (¬ (1<=x/\x<=1000000)->r=false):=jq (λh=>by rw[<-HR.out]; exact Np.aP λq=>h (q.each x (gQ ac)));have bW:(0:Int)<=(k:Int):=by omega
   have bV:(k:Int)<(n:Int):=by omega
   clear ac;by_cases h1:x<1
   ·have HX:=jq (HF.out (by omega));have g1:decide (x<1)=true:=by simpa using h1
    clear h1;go_wp2_with fail;go_ret;exact⟨aj HX.out.symm,aF.out⟩
   ·have g1:decide (x<1)=false:=by simpa using h1
    by_cases h2:1000000<x
    ·have HX:=jq (HF.out (by omega));have g2:decide (1000000<x)=true:=by simpa using h2
     clear h1 h2;go_wp2_with fail;go_ret;exact⟨aj HX.out.symm,aF.out⟩
    ·have HX:=jq (ir.out (by omega));have g2:decide (1000000<x)=false:=by simpa using h2
     clear h1 h2;go_wp2_with fail;go_roundw
     case rel=>exact⟨k+1,by omega,by go_num,by first | rfl | trivial,HX⟩
     case measure=>simp[intOf] <;> omega
  ·have rr:Hid (∀ x∈hints,1<=x/\x<=1000000):=jq (λx hx=>by
    obtain⟨j,hj,rfl⟩:=nQ.1 hx;exact HA.out j _ (by have:=HN.out; omega) (aQ hj))
   go_wp2_with fail;refine (LN s hs ty life _ d _ (HD.out.later cL dp aF.out)).mono ?_;rintro e w2 ⟨rfl,aa⟩;have aN:=aa.size;replace c0:w2.cell? ⟨w.heap.size,0,none⟩=some (.string s):=(aa.cell (by dsimp only; omega)).trans c0;replace c1:w2.cell? ⟨w.heap.size,1,none⟩=some (.int .i64 ty):=(aa.cell (by dsimp only; omega)).trans c1;have ak:=jq (aF.out.trans (aa.mono (by omega)));clear aa c2' c3
   cases fZ:Np.ee ⟨s.data.toList,ty,life,d⟩ with
   | false=>
    have HX:Hid (r=false):=jq (by rw[<-HR.out]; exact Np.aP λq=>by have:=q.set; rw[fZ] at this; cases this);clear fZ;go_wp2_with fail;go_ret;exact⟨aj HX.out.symm,ak.out⟩
   | true=>
    have lh:=jq fZ;clear fZ;by_cases h6:ty=6
    ·by_cases oa:s.data.toList = [46]
     ·have ID:(s.toList == [46])=true:=by rw[dQ,oa]; rfl
      have BM:(ty == 6)=true:=by simpa using h6
      have JB:=jq oa;have H6:=jq h6;clear oa h6;by_cases aJ:1<=n
      ·have g1:decide ((1:Int)<=(n:Int))=true:=by simp; omega
       by_cases zd:n<=8
       ·have HX:Hid (r=true):=jq (by rw[<-HR.out]; exact Np.bO ⟨lh.out,H6.out,JB.out,by rw[HN.out]; exact⟨aJ,zd⟩,rr.out⟩);have g2:decide ((n:Int)<=8)=true:=by simp; omega
        clear aJ zd;go_wp2_with fail;go_ret;exact⟨aj HX.out.symm,ak.out⟩
       ·have HX:Hid (r=false):=jq (by rw[<-HR.out]; exact Np.aP λq=>by have:=q.few; rw[HN.out] at this; omega);have g2:decide ((n:Int)<=8)=false:=by simp; omega
        clear aJ zd;go_wp2_with fail;go_ret;exact⟨aj HX.out.symm,ak.out⟩
      ·have HX:Hid (r=false):=jq (by rw[<-HR.out]; exact Np.aP λq=>by have:=q.few; rw[HN.out] at this; omega);have g1:decide ((1:Int)<=(n:Int))=false:=by simp; omega
       clear aJ;go_wp2_with fail;go_ret;exact⟨aj HX.out.symm,ak.out⟩
     ·have HX:Hid (r=false):=jq (by rw[<-HR.out]; exact Np.aP λq=>oa q.name);have ID:(s.toList == [46])=false:=by rw[dQ]; simpa using oa
      have BM:(ty == 6)=true:=by simpa using h6
      clear oa h6;go_wp2_with fail;go_ret;exact⟨aj HX.out.symm,ak.out⟩
    ·have HX:Hid (r=false):=jq (by rw[<-HR.out]; exact Np.aP λq=>h6 q.type);have BM:(ty == 6)=false:=by simpa using h6
     clear h6;go_wp2_with fail;go_ret;exact⟨aj HX.out.symm,ak.out⟩
def Np.jL(l:List Np.Host)(a:Int):Int:=kP (λh=>decide (h.addr=a)) l
theorem Vm(v:Value)(l:List Np.Host)(a:Int)(w:World)(hd:SlR gW 3 w w.heap.size v l) :
 Calls prog 71 #[v,.int .i64 a] w λe w'=>e = .returned (.int .i64 (Np.jL l a))/\w=w':=by
 obtain⟨r,hr⟩:∃ r,Np.jL l a=r:=⟨_,rfl⟩;rw[hr];have HR:=jq hr;have HD:=jq hd;obtain⟨A,c,rfl,bC,bH⟩:=ag hd;clear hr hd;go_enter func71,ntmps71;go_wp2_with fail;go_loopw [5] (λi wr=>∃ k:Nat,k<=l.length/\i = .int .i64 k/\wr=w/\Hid (∀ x∈l.take k,decide (x.addr=a)=false)) (λi _=>l.length - (intOf i).toNat)
 case atStart=>exact⟨0,jQ _,rfl,rfl,jq (by simp)⟩
 case round=>
  obtain⟨k,hk,rfl,rfl,HA⟩:=hrel;by_cases ab:k<l.length
  ·obtain⟨x,ac⟩:∃ x,l[k]?=some x:=⟨_,aQ ab⟩;obtain⟨b,o,sn,rfl,bg,az,bL,f0,f1,f2⟩:=tH HD.out ac;have bW:(0:Int)<=(k:Int):=by omega
   have bV:(k:Int)<(l.length:Int):=by omega
   have HG:=jq ac;by_cases he:x.addr=a
   ·have HX:Hid (r=k):=jq (by
     rw[<-HR.out];obtain⟨hl,hx⟩:=cQ.1 ac;exact DQ _ l k hl HA.out (by rw[hx]; simpa using he))
    have g1:(x.addr == a)=true:=by simpa using he
    clear he ac;go_wp2_with fail;go_ret;exact⟨ik HX.out.symm,rfl⟩
   ·have HX:Hid (∀ y∈l.take (k+1),decide (y.addr=a)=false):=jq (λy hy=>by
     obtain⟨hl,hx⟩:=cQ.1 ac;rw[fQ hl,hx] at hy;rcases List.mem_append.1 hy with h | h
     ·exact HA.out y h
     ·simp at h; subst h; simpa using he)
    have g1:(x.addr == a)=false:=by simpa using he
    clear he ac;go_wp2_with fail;go_roundw
    case rel=>exact⟨k+1,by omega,by go_num,by first | rfl | trivial,HX⟩
    case measure=>simp[intOf] <;> omega
  ·have HX:Hid (r = -1):=jq (by
    rw[<-HR.out];refine Dz _ l (λx hx=>?_)
    have:=HA.out
    rw[kQ (by omega)] at this;exact this x hx)
   go_wp2_with fail;go_ret;exact⟨ik HX.out.symm,rfl⟩
end
section
open Go.RowKit Go.MapKept
def pP(p:Int×List UInt8):Value:=.agg #[.int .i64 p.1,aH p.2]
def kn(r:Nat)(kvs:List ((Int×List UInt8)×Value))(w:World):Prop:=∃ es,w.heap[r]?=some (.map es es.size)/\es.toList.map (λe=>(e.key,e.val))=kvs.map (λp=>(pP p.1,p.2))/\∀ (i:Nat) (e:MapEntry),es[i]?=some e->e.born=i
theorem kn.lt{r:Nat}{kvs:List ((Int×List UInt8)×Value)}{w:World}(h:kn r kvs w):r<w.heap.size:=by
 obtain⟨es,h,_⟩:=h;exact (eQ.1 h).1
theorem kn.keep{r:Nat}{kvs:List ((Int×List UInt8)×Value)}{w w':World}{n:Nat}(h:kn r kvs w)(hb:Below n w w')(hn:r<n):kn r kvs w':=by
 obtain⟨es,h,h2⟩:=h;exact⟨es,(hb.block r hn).trans h,h2⟩
theorem kn.keep'{r:Nat}{kvs:List ((Int×List UInt8)×Value)}{w w':World}(h:kn r kvs w)(hb:w'.heap[r]?=w.heap[r]?):kn r kvs w':=by
 obtain⟨es,h,h2⟩:=h;exact⟨es,hb.trans h,h2⟩
theorem kn.made(w:World):kn w.heap.size [] (w.alloc (.map #[] 0)):=⟨#[],heap_alloc_new _ _,rfl,λi e h=>by simp at h⟩
theorem aaK(p q:Int×List UInt8)(w:World):(Op.equal 187 (pP p) (pP q)).run prog w = .ok (decide (p=q)) w:=by
 obtain⟨n,a⟩:=p;obtain⟨m,b⟩:=q;have u3:=underlying3;have a3:=isAgg3;have z3:=sizeOf3;have u9:=underlying9;have a9:=isAgg9;have z9:=sizeOf9;have hS:prog.underlying 187=some (.struct (prog.fieldsOf 187)):=by kernel_rfl
 have hp:prog.stoodInHeld 187=false:=by kernel_rfl
 show (Op.equalIn 10000 187 (.agg #[.int .i64 n,.string ⟨a.toArray⟩]) (.agg #[.int .i64 m,.string ⟨b.toArray⟩])).run prog w=_;rw[show (10000:Nat)=9999+1 from rfl,run_equalIn_agg w 9999 187 _ _ hS hp];simp only[Program.fieldsOf,underlying187];go_simp;by_cases h0:a=b <;> by_cases h1:n=m <;> simp[h0,h1]
theorem Pn(b:Bool)(p:Int×List UInt8)(w:World):(Instr.checkKey b 10000 187 (pP p)).run prog w = .ok () w:=by
 have hS:=underlying187;have hs:∀ s w,(Instr.checkKey b 9999 9 (.string s)).run prog w = .ok () w:=λs w=>MapKept.run_checkKey (k:=.string s) underlying9 (by simp[MapKept.IsKey]) b 9998;have hi:∀ n w,(Instr.checkKey b 9999 3 (.int .i64 n)).run prog w = .ok () w:=λn w=>MapKept.run_checkKey (k:=.int .i64 n) underlying3 (by simp[MapKept.IsKey]) b 9998;have a3:=isAgg3;have z3:=sizeOf3;have a9:=isAgg9;have z9:=sizeOf9;rw[show (10000:Nat)=9999+1 from rfl,Instr.checkKey];simp only[pP,aH];simp[run_underlying hS,go_sem,Result.andThen,hs,hi]
theorem TC{fs:Array Field}{k:Value}{e:MapEntry}{es:List MapEntry}(i:Nat):Instr.findNow (.struct fs) k (e::es) i=none:=by
 simp only[Instr.findNow];rfl
theorem PC(p:Int×List UInt8)(w:World):∀ (es:List MapEntry) (kvs:List ((Int×List UInt8)×Value)) (i:Nat),es.map (λe=>(e.key,e.val))=kvs.map (λq=>(pP q.1,q.2))->
 (∀ v,kvs.lookup p=some v->∃ j,(es[j]?).map (λe=>(e.key,e.val))=some (pP p,v)/\kvs[j]?=some (p,v)/\(Instr.findAsking 187 (pP p) es i).run prog w = .ok (some (i+j,v)) w)/\(kvs.lookup p=none->(Instr.findAsking 187 (pP p) es i).run prog w = .ok none w)
 | [],kvs,i,h=>by
   cases kvs with
   | nil=>exact⟨λv h=>by simp at h,λ_=>by rw[Instr.findAsking]; rfl⟩
   | cons=>simp at h
 | e::es,kvs,i,h=>by
   cases kvs with
   | nil=>simp at h
   | cons q kvs=>
    obtain⟨q,u⟩:=q;simp only[List.map_cons,List.cons.injEq,Prod.mk.injEq] at h;obtain⟨⟨h1,h2⟩,h3⟩:=h;obtain⟨i1,i2⟩:=PC p w es kvs (i+1) h3;have hq:=aaK p q w;rw[<-h1] at hq;by_cases rX:p=q
    ·have hd:decide (p=q)=true:=by simpa using rX
     rw[hd] at hq;have hr:(Instr.findAsking 187 (pP p) (e::es) i).run prog w = .ok (some (i,u)) w:=by
      rw[Instr.findAsking];simp[hq,h2]
     subst rX;refine⟨λv hv=>⟨0,?_,?_,?_⟩,λhn=>?_⟩
     ·rw[List.lookup_cons_self] at hv; cases hv; simp[h1,h2]
     ·rw[List.lookup_cons_self] at hv; cases hv; rfl
     ·rw[List.lookup_cons_self] at hv; cases hv; exact hr
     ·rw[List.lookup_cons_self] at hn; cases hn
    ·have hd:decide (p=q)=false:=by simpa using rX
     rw[hd] at hq;have hb:(p == q)=false:=by simpa using rX
     have hr:(Instr.findAsking 187 (pP p) (e::es) i).run prog w=(Instr.findAsking 187 (pP p) es (i+1)).run prog w:=by
      rw[Instr.findAsking];simp[hq]
     have hl:((q,u)::kvs).lookup p=kvs.lookup p:=by rw[List.lookup_cons,hb]
     rw[hr,hl];refine⟨λv hv=>?_,i2⟩;obtain⟨j,j1,j2,j3⟩:=i1 v hv;exact⟨j+1,by simpa using j1,by simpa using j2,by rw[show i+(j+1)=i+1+j by omega]; exact j3⟩
theorem Ps(p:Int×List UInt8)(w:World)(es:List MapEntry)(kvs:List ((Int×List UInt8)×Value))(h:es.map (λe=>(e.key,e.val))=kvs.map (λq=>(pP q.1,q.2))) :
 (∀ v,kvs.lookup p=some v->∃ j,(es[j]?).map (λe=>(e.key,e.val))=some (pP p,v)/\kvs[j]?=some (p,v)/\(Instr.findKey 187 (pP p) es).run prog w = .ok (some (j,v)) w)/\(kvs.lookup p=none->(Instr.findKey 187 (pP p) es).run prog w = .ok none w):=by
 have hS:=underlying187
 cases es with
 | nil=>
  cases kvs with
  | nil=>exact⟨λv h=>by simp at h,λ_=>by simp[Instr.findKey,run_underlying hS,Instr.findNow]⟩
  | cons=>simp at h
 | cons e es=>
  obtain⟨i1,i2⟩:=PC p w (e::es) kvs 0 h;have hr:(Instr.findKey 187 (pP p) (e::es)).run prog w=(Instr.findAsking 187 (pP p) (e::es) 0).run prog w:=by
   simp[Instr.findKey,run_underlying hS,TC]
  rw[hr];refine⟨λv hv=>?_,i2⟩;obtain⟨j,j1,j2,j3⟩:=i1 v hv;exact⟨j,j1,j2,by rw[j3,Nat.zero_add]⟩
theorem Uy(w:World)(t et:TypeId)(ht:prog.underlying t=some (.map 187 et))(r:Nat)(kvs:List ((Int×List UInt8)×Value))(hr:kn r kvs w)(p:Int×List UInt8)(z:Value)(hz:(zeroValue et).run prog w = .ok z w) :
 (Instr.lookup t (.map (some r)) (pP p) false).run prog w = .ok ((kvs.lookup p).getD z) w:=by
 obtain⟨es,hr,he,_⟩:=hr;have hf:=Ps p w es.toList kvs he;have hc:∀ b,(Instr.checkKey b 10000 187 (pP p)).run prog w = .ok () w:=λb=>Pn b p w
 cases hl:kvs.lookup p with
 | none=>simp[Instr.lookup,run_underlying ht,MapKept.run_getObj_map hr,hc,hf.2 hl,Result.andThen,hz]
 | some v=>
  obtain⟨j,_,_,hj⟩:=hf.1 v hl;simp[Instr.lookup,run_underlying ht,MapKept.run_getObj_map hr,hc,hj,Result.andThen]
theorem Tt{ops:Array Oper}{rest:List Oper}{o:Oper}{a:Act}{Q:Exit->Act->World->Prop}(w:World)(hg:o.guard=none)(m x v:Operand)(t:TypeId)(kx:o.op=Op.mapUpdate t m x v)(et:TypeId)(ht:prog.underlying t=some (.map 187 et))
 (r:Nat) (kvs:List ((Int×List UInt8)×Value)) (hm:a.eval m = .map (some r)) (hr:kn r kvs w) (p:Int×List UInt8) (hx:a.eval x=pP p) (val:Value) (hv:a.eval v=val) (iG:kvs.lookup p=none)
 (hK:∀ w',kn r (kvs ++ [(p,val)]) w'->Turned r w w'->wpList prog ops Q rest (a.put o.dst undef) w'):wpList prog ops Q (o::rest) a w:=by
 obtain⟨es,hr,he,lU⟩:=hr;have hf:=(Ps p w es.toList kvs he).2 iG;refine wpList_plain hg λK' hK'=>?_;have hc:(Instr.checkKey false 10000 187 (pP p)).run prog w = .ok () w:=Pn false p w;have dH:(Instr.mapUpdate t (.map (some r)) (pP p) val).run prog w = .ok () { w with heap:=w.heap.setIfInBounds r (.map (es.push { key:=pP p,val:=val,born:=es.size }) (es.size+1)) }:=by
  simp[Instr.mapUpdate,run_underlying ht,MapKept.run_getObj_map hr,hc,hf,MapKept.run_setObj_map _ hr,Result.andThen]
 unfold Oper.wp;simp[execOp,kx,hm,hx,hv,dH,Result.andThen];have hl:r<w.heap.size:=(eQ.1 hr).1;refine hK' _ _ (hK _ ⟨es.push { key:=pP p,val:=val,born:=es.size },by simp[hl],by simp[he],λi e hi=>?_⟩ ⟨rfl,rfl,rfl,by simp,λi hi=>by simp[Ne.symm hi]⟩);rw[Array.getElem?_push] at hi;split at hi
 ·rename_i h1; cases hi; exact h1.symm
 ·exact lU i e hi
end
section
open Go.RowKit
structure Np.ApexH(a:List UInt8)(l:List Np.Signed):Prop where
 start:Np.kf l a 4
 server:Np.kf l a 2
 fits:∀ x∈l,Np.kj x.set.type (x.set.name == a)=true
theorem Ul(a:ByteArray)(ha:a.size<=140737488355328)(na:Np.aG a.data.toList=true)(v:Value)(l:List Np.Signed)(cu:l.length<=20000)(hv:∀ x∈l,Np.aG x.set.name=true)(hs:Np.vC l)(w:World)(hd:SlR bK 5 w w.heap.size v l) :
 Calls prog 102 #[.agg #[.string a,v]] w λe w'=>e = .returned (.bool (Np.yes (Np.ApexH a.data.toList l)))/\Below w.heap.size w w':=by
 obtain⟨r,hr⟩:∃ r,Np.yes (Np.ApexH a.data.toList l)=r:=⟨_,rfl⟩;rw[hr];have HR:=jq hr;have HV:=jq hv;have HS:=jq hs;have HD:=jq hd;have NA:=jq na;obtain⟨A,c,rfl,bC,bH⟩:=ag hd;clear hr hv hs hd na;have HW:Hid (∀ o o',Below w.heap.size w ((w.alloc o).alloc o')):=jq (λo o'=>((vQ _ w).alloc (bQ _) _).alloc (by simp) _);go_enter func102,ntmps102;go_wp2_with fail;obtain⟨w1,al⟩:∃ w1,(w.alloc (.cells #[.string a,.slice A l.length c] 161)).alloc (.cells #[.int .i64 4,.int .i64 2] 3)=w1:=⟨_,rfl⟩;have c0:w1.cell? ⟨w.heap.size,0,none⟩=some (.string a):=by rw[<-al]; simp[go_sem]
 have c1:w1.cell? ⟨w.heap.size,1,none⟩=some (.slice A l.length c):=by rw[<-al]; simp[go_sem]
 have c2:w1.cell? ⟨w.heap.size+1,0,none⟩=some (.int .i64 4):=by rw[<-al]; simp[go_sem]
 have c3:w1.cell? ⟨w.heap.size+1,1,none⟩=some (.int .i64 2):=by rw[<-al]; simp[go_sem]
 have fh:w1.heap.size=w.heap.size+2:=by rw[<-al]; simp
 have aF:Hid (Below w.heap.size w w1):=jq (by rw[<-al]; exact HW.out _ _);rw[al];clear al;go_loopw [11] (λi wr=>Hid (Below w1.heap.size w1 wr)/\(i = .int .i64 0\/(i = .int .i64 1/\Hid (Np.kf l a.data.toList 4))\/(i = .int .i64 2/\Hid (Np.kf l a.data.toList 4)/\Hid (Np.kf l a.data.toList 2)))) (λi _=>2 - (intOf i).toNat)
 case atStart=>exact⟨jq (vQ _ _),.inl rfl⟩
 case round=>
  obtain⟨HB,hi⟩:=hrel;have an:=HB.out.size;obtain⟨bc,bf⟩:=tN HB.out;have d0:wr.cell? ⟨w.heap.size,0,none⟩=some (.string a):=by rw[bc _ _ (by omega)]; exact c0
  have d1:wr.cell? ⟨w.heap.size,1,none⟩=some (.slice A l.length c):=by rw[bc _ _ (by omega)]; exact c1
  have d2:wr.cell? ⟨w.heap.size+1,0,none⟩=some (.int .i64 4):=by rw[bc _ _ (by omega)]; exact c2
  have d3:wr.cell? ⟨w.heap.size+1,1,none⟩=some (.int .i64 2):=by rw[bc _ _ (by omega)]; exact c3
  clear bc bf;have aD:=jq (aF.out.trans (HB.out.mono (by omega)));have KL:=jq ((HD.out.keep aV aD.out).more bR (show w.heap.size<=wr.heap.size by omega));have dF:w.heap.size+1<wr.heap.size:=by omega
  have aHQ:w.heap.size<wr.heap.size:=by omega
  rcases hi with rfl | ⟨rfl,H4⟩ | ⟨rfl,H4,H2⟩
  ·go_wp2_with fail;refine (OQ a _ l cu HV.out HS.out a ha 4 NA.out _ KL.out).mono ?_;rintro e w2 ⟨rfl,hb⟩;have ak:=jq hb;have aN:=hb.size;clear hb
   cases hk:Np.yes (Np.kf l a.data.toList 4) with
   | true=>
    have HK:=jq hk;clear hk;go_wp2_with fail;go_roundw
    case rel=>exact⟨jq (HB.out.trans (ak.out.mono HB.out.size)),.inr (.inl ⟨by go_num,jq (Np.eE.1 HK.out)⟩)⟩
    case measure=>simp[intOf] <;> omega
   | false=>
    have HK:=jq hk;clear hk;go_wp2_with fail;go_ret;refine⟨aj ?_,aD.out.trans (ak.out.mono (by omega))⟩;rw[<-HR.out];refine (Np.aP λh=>?_).symm
    have:=Np.bO h.start
    rw[HK.out] at this
    cases this
  ·go_wp2_with fail;refine (OQ a _ l cu HV.out HS.out a ha 2 NA.out _ KL.out).mono ?_;rintro e w2 ⟨rfl,hb⟩;have ak:=jq hb;have aN:=hb.size;clear hb
   cases hk:Np.yes (Np.kf l a.data.toList 2) with
   | true=>
    have HK:=jq hk;clear hk;go_wp2_with fail;go_roundw
    case rel=>exact⟨jq (HB.out.trans (ak.out.mono HB.out.size)),.inr (.inr ⟨by go_num,H4,jq (Np.eE.1 HK.out)⟩)⟩
    case measure=>simp[intOf] <;> omega
   | false=>
    have HK:=jq hk;clear hk;go_wp2_with fail;go_ret;refine⟨aj ?_,aD.out.trans (ak.out.mono (by omega))⟩;rw[<-HR.out];refine (Np.aP λh=>?_).symm
    have:=Np.bO h.server
    rw[HK.out] at this
    cases this
  ·go_wp2_with fail;clear d2 d3 c0 c1 c2 c3;obtain⟨w5,rfl⟩:∃ w5,w5=wr:=⟨_,rfl⟩;go_loopw [32] (λi wx=>∃ k:Nat,k<=l.length/\i = .int .i64 k/\Hid (Below w5.heap.size w5 wx)/\Hid (∀ j x,j<k->l[j]?=some x->Np.kj x.set.type (x.set.name == a.data.toList)=true)) (λi _=>l.length - (intOf i).toNat)
   case atStart=>exact⟨0,jQ _,rfl,jq (vQ _ _),jq (λj g hj=>by omega)⟩
   case round=>
    obtain⟨k,hk,rfl,HX,HA⟩:=hrel;by_cases ab:k<l.length
    ·have ac:=aQ ab;obtain⟨b,o,c',sn,dv,sv,hA,bg,_,az,bL,bd,aL,e0,e1,e2,e3,e4⟩:=eT (KL.out.keep aV HX.out) ac
     cases hA
     generalize hx:l[k]=x at *;clear hx;obtain⟨Ad,cd,rfl,_,_⟩:=ag bd;obtain⟨As,cs,rfl,_,_⟩:=ag aL;have lO:=HX.out.size;have g0:wr.cell? ⟨w.heap.size,0,none⟩=some (.string a):=by rw[HX.out.cell (by simpa using aHQ)]; exact d0
     have eF:w.heap.size<wr.heap.size:=by omega
     have heq:(sn.toList == a.toList)=(x.set.name == a.data.toList):=by rw[dQ,dQ,az]
     have vX:Hid (Np.kj x.set.type (x.set.name == a.data.toList)=true->∀ j y,j<k+1->l[j]?=some y->Np.kj y.set.type (y.set.name == a.data.toList)=true):=jq (λh j y hj hy=>by
      by_cases e:j=k
      ·subst e; rw[ac] at hy; cases hy; exact h
      ·exact HA.out j y (by omega) hy)
     have Kh:Hid (Np.kj x.set.type (x.set.name == a.data.toList)=false->r=false):=jq (λh=>by
      rw[<-HR.out];exact Np.aP λq=>by have:=q.fits x (gQ ac); rw[h] at this; cases this)
     have br:Hid (∀ o,Below w5.heap.size w5 (wr.alloc o)):=jq (λo=>HX.out.alloc HX.out.size _);generalize (x.set.name == a.data.toList)=bb at *;clear ac az bd aL
     cases hf:Np.kj x.set.type bb with
     | true=>
      have HF:=jq hf;go_wp2_with (go_at_call 166; refine (Ml _ _ _).mono ?_; rintro e w' ⟨rfl,rfl⟩);go_roundw
      case rel=>exact⟨k+1,by omega,by go_num,jq (br.out _),jq (vX.out HF.out)⟩
      case measure=>simp[intOf] <;> omega
     | false=>
      have HF:=jq hf;go_wp2_with (go_at_call 166; refine (Ml _ _ _).mono ?_; rintro e w' ⟨rfl,rfl⟩);go_ret;exact⟨aj (Kh.out HF.out).symm,aD.out.trans ((br.out _).mono (by omega))⟩
    ·go_wp2_with fail;go_ret;refine⟨aj ?_,aD.out.trans (HX.out.mono (by omega))⟩;rw[<-HR.out];refine (Np.bO ⟨H4.out,H2.out,λx hx=>?_⟩).symm;obtain⟨j,hj,rfl⟩:=nQ.1 hx;exact HA.out j _ (by omega) (aQ hj)
theorem Us(a:ByteArray)(v bv:Value)(l:List Np.Signed)(B:List (List UInt8))(kE:B.length=l.length)(w:World)(hd:SlR bK 5 w w.heap.size v l)(jc:SlR RTx 1 w w.heap.size bv B) :
 Calls prog 106 #[.agg #[.string a,v,bv]] w λe w'=>e = .returned (.bool (Np.yes (Np.AO l B)))/\Below w.heap.size w w':=by
 obtain⟨r,hr⟩:∃ r,Np.yes (Np.AO l B)=r:=⟨_,rfl⟩;rw[hr];have HR:=jq hr;have eL:=jq kE;have HD:=jq hd;have kD:=jq jc;obtain⟨A,c,rfl,bC,bH⟩:=ag hd;obtain⟨A2,c2,rfl,eB,dz⟩:=ag jc;rw[kE] at eB dz kD |-;clear hr hd jc kE;have HW:Hid (∀ o,Below w.heap.size w (w.alloc o)):=jq (λo=>(vQ _ w).alloc (bQ _) _);go_enter func106,ntmps106;go_wp2_with fail;obtain⟨w1,al⟩:∃ w1,w.alloc (.cells #[.string a,.slice A l.length c,.slice A2 l.length c2] 163)=w1:=⟨_,rfl⟩;have c2':w1.cell? ⟨w.heap.size,2,none⟩=some (.slice A2 l.length c2):=by rw[<-al]; simp[go_sem]
 have fh:w.heap.size<w1.heap.size:=by rw[<-al]; simp
 have aF:Hid (Below w.heap.size w w1):=jq (by rw[<-al]; exact HW.out _);rw[al];clear al;go_loopw [11] (λi wr=>∃ k:Nat,k<=l.length/\i = .int .i64 k/\Hid (Below w1.heap.size w1 wr)/\Hid (∀ j x b,j<k->l[j]?=some x->B[j]?=some b->(b≠[]->x.set.type=2\/x.set.type=1->x.sigs = []))) (λi _=>l.length - (intOf i).toNat)
 case atStart=>exact⟨0,jQ _,rfl,jq (vQ _ _),jq (λj x b hj=>by omega)⟩
 case round=>
  obtain⟨k,hk,rfl,HB,HA⟩:=hrel;have an:=HB.out.size;have aD:=jq (aF.out.trans (HB.out.mono (by omega)));by_cases ab:k<l.length
  ·obtain⟨x,ac⟩:∃ x,l[k]?=some x:=⟨_,aQ ab⟩;obtain⟨bb,fy⟩:∃ bb,B[k]?=some bb:=⟨_,aQ (by rw[eL.out]; omega)⟩;obtain⟨b,o,c',sn,dv,sv,hA,bg,_,az,bL,bd,aL,e0,e1,e2,e3,e4⟩:=eT (HD.out.keep aV aD.out) ac
   cases hA
   obtain⟨b2,o2,sb,rfl,zJ,mZ,Jf,g0⟩:=rK (kD.out.keep jk aD.out) fy;have HN:Hid ((bb≠[]->x.set.type=2\/x.set.type=1->x.sigs = [])->∀ j x b,j<k+1->l[j]?=some x->B[j]?=some b->(b≠[]->x.set.type=2\/x.set.type=1->x.sigs = [])):=jq (λh j x b hj hx hb=>by
    by_cases e:j=k
    ·subst e; rw[ac] at hx; rw[fy] at hb; cases hx; cases hb; exact h
    ·exact HA.out j x b (by omega) hx hb)
   have HF:Hid (¬ (bb≠[]->x.set.type=2\/x.set.type=1->x.sigs = [])->r=false):=jq (λh=>by
    rw[<-HR.out]; exact Np.aP λq=>h (q k _ _ ac fy))
   clear ac fy;obtain⟨Ad,cd,rfl,_,_⟩:=ag bd;obtain⟨As,cs,rfl,_,_⟩:=ag aL;have hcell:wr.cell? ⟨w.heap.size,2,none⟩=some (.slice (some ⟨b2,o2,none⟩) l.length c2):=(HB.out.cell (by dsimp only; omega)).trans c2';have dF:w.heap.size<wr.heap.size:=by omega
   have aq:b<wr.heap.size:=by omega
   have aa:b2<wr.heap.size:=by omega
   have br:Hid (∀ o,Below w1.heap.size w1 (wr.alloc o)):=jq (λo=>HB.out.alloc HB.out.size _);have qg:Hid (∀ o,Below w.heap.size w (wr.alloc o)):=jq (λo=>aD.out.alloc (by omega) _);have bW:(0:Int)<=(k:Int):=by omega
   have bV:(k:Int)<(l.length:Int):=by omega
   have aS:=jq az;have eu:=jq mZ;obtain⟨ty,dD⟩:∃ ty,x.set.type=ty:=⟨_,rfl⟩;have go:=jq dD;rw[dD] at e1;clear az mZ bd aL dD;by_cases di:bb = []
   ·obtain rfl:sb=⟨#[]⟩:=iV (by rw[eu.out,di]);have HX:=jq (HN.out (λh=>absurd di h));clear di;go_wp2_with fail;go_roundw
    case rel=>exact⟨k+1,by omega,by go_num,jq (br.out _),jq HX.out⟩
    case measure=>simp[intOf] <;> omega
   ·have Cb:(sb.toList == [])=false:=by rw[dQ,eu.out]; simpa using di
    have qX:=jq di;clear di;by_cases ht:ty=2\/ty=1
    ·by_cases tR:x.sigs.length=0
     ·have HX:=jq (HN.out (λ_ _=>rQ tR));rw[tR] at e4;clear tR;rcases ht with rfl | rfl
      all_goals
       go_wp2_with fail;go_roundw
       case rel=>exact⟨k+1,by omega,by go_num,jq (br.out _),jq HX.out⟩
       case measure=>simp[intOf] <;> omega
     ·have HX:Hid (r=false):=jq (HF.out λh=>tR (by rw[h qX.out (by rw[go.out]; exact ht)]; rfl));have adJ:0<x.sigs.length:=by omega
      have baY:(0:Int)<(x.sigs.length:Int):=by omega
      clear tR;rcases ht with rfl | rfl
      all_goals
       go_wp2_with fail;go_ret;exact⟨aj HX.out.symm,qg.out _⟩
    ·have HX:=jq (HN.out (λ_ h=>absurd (by rw[go.out] at h; exact h) ht));have t1:(ty == 2)=false:=by simp; omega
     have t2:(ty == 1)=false:=by simp; omega
     clear ht;go_wp2_with fail;go_roundw
     case rel=>exact⟨k+1,by omega,by go_num,jq (br.out _),jq HX.out⟩
     case measure=>simp[intOf] <;> omega
  ·go_wp2_with fail;go_ret;refine⟨aj ?_,aD.out⟩;rw[<-HR.out];exact (Np.bO λi x b hx hb=>HA.out i x b (by have:=(cQ.1 hx).1; omega) hx hb).symm
theorem Ug(a:ByteArray)(v:Value)(A2:Option Addr)(n2 c2:Nat)(l:List Np.Signed)(w:World)(hd:SlR bK 5 w w.heap.size v l) :
 Calls prog 107 #[.agg #[.string a,v,.slice A2 n2 c2]] w λe w'=>e = .returned (.bool (Np.yes (∀ x∈l,Np.gV a.data.toList x.sigs)))/\Below w.heap.size w w':=by
 obtain⟨r,hr⟩:∃ r,Np.yes (∀ x∈l,Np.gV a.data.toList x.sigs)=r:=⟨_,rfl⟩;rw[hr];have HR:=jq hr;have HD:=jq hd;obtain⟨A,c,rfl,bC,bH⟩:=ag hd;clear hr hd;have HW:Hid (∀ o,Below w.heap.size w (w.alloc o)):=jq (λo=>(vQ _ w).alloc (bQ _) _);go_enter func107,ntmps107;go_wp2_with fail;obtain⟨w1,al⟩:∃ w1,w.alloc (.cells #[.string a,.slice A l.length c,.slice A2 n2 c2] 163)=w1:=⟨_,rfl⟩;have c2':w1.cell? ⟨w.heap.size,0,none⟩=some (.string a):=by rw[<-al]; simp[go_sem]
 have fh:w.heap.size<w1.heap.size:=by rw[<-al]; simp
 have aF:Hid (Below w.heap.size w w1):=jq (by rw[<-al]; exact HW.out _);rw[al];clear al;go_loopw [10] (λi wr=>∃ k:Nat,k<=l.length/\i = .int .i64 k/\Hid (Below w1.heap.size w1 wr)/\Hid (∀ j x,j<k->l[j]?=some x->Np.gV a.data.toList x.sigs)) (λi _=>l.length - (intOf i).toNat)
 case atStart=>exact⟨0,jQ _,rfl,jq (vQ _ _),jq (λj x hj=>by omega)⟩
 case round=>
  obtain⟨k,hk,rfl,HB,HA⟩:=hrel;have an:=HB.out.size;have aD:=jq (aF.out.trans (HB.out.mono (by omega)));by_cases ab:k<l.length
  ·obtain⟨x,ac⟩:∃ x,l[k]?=some x:=⟨_,aQ ab⟩;obtain⟨b,o,c',sn,dv,sv,hA,bg,_,az,bL,bd,aL,e0,e1,e2,e3,e4⟩:=eT (HD.out.keep aV aD.out) ac
   cases hA
   have HN:Hid (Np.gV a.data.toList x.sigs->∀ j x,j<k+1->l[j]?=some x->Np.gV a.data.toList x.sigs):=jq (λh j y hj hy=>by
    by_cases e:j=k
    ·subst e; rw[ac] at hy; cases hy; exact h
    ·exact HA.out j y (by omega) hy)
   have HF:Hid (¬ Np.gV a.data.toList x.sigs->r=false):=jq (λh=>by
    rw[<-HR.out]; exact Np.aP λq=>h (q x (gQ ac)))
   clear ac;obtain⟨Ad,cd,rfl,_,_⟩:=ag bd;obtain⟨As,cs,rfl,_,_⟩:=ag aL;have hcell:wr.cell? ⟨w.heap.size,0,none⟩=some (.string a):=(HB.out.cell (by dsimp only; omega)).trans c2';have ky:=jq (aL.more ij (show w.heap.size<=wr.heap.size by omega));have dF:w.heap.size<wr.heap.size:=by omega
   have aq:b<wr.heap.size:=by omega
   have br:Hid (∀ o,Below w1.heap.size w1 (wr.alloc o)):=jq (λo=>HB.out.alloc HB.out.size _);have qg:Hid (∀ o,Below w.heap.size w (wr.alloc o)):=jq (λo=>aD.out.alloc (by omega) _);have bW:(0:Int)<=(k:Int):=by omega
   have bV:(k:Int)<(l.length:Int):=by omega
   have aS:=jq az;clear az bd aL;go_wp2_with fail;refine (WH a _ x.sigs _ (ky.out.later gg ij ((vQ _ _).alloc (bQ _) _))).mono ?_;rintro e w2 ⟨rfl,hb⟩;have ak:Hid (Below wr.heap.size wr w2):=jq (((vQ _ _).alloc (bQ _) _).trans (hb.mono (by simp)));clear hb
   cases hf:Np.yes (Np.gV a.data.toList x.sigs) with
   | true=>
    have HX:=jq (HN.out (Np.eE.1 hf));clear hf;go_wp2_with fail;go_roundw
    case rel=>exact⟨k+1,by omega,by go_num,jq (HB.out.trans (ak.out.mono HB.out.size)),jq HX.out⟩
    case measure=>simp[intOf] <;> omega
   | false=>
    have HX:=jq (HF.out λh=>by rw[Np.bO h] at hf; cases hf);clear hf;go_wp2_with fail;go_ret;exact⟨aj HX.out.symm,aD.out.trans (ak.out.mono (by omega))⟩
  ·go_wp2_with fail;go_ret;refine⟨aj ?_,aD.out⟩;rw[<-HR.out];refine (Np.bO λx hx=>?_).symm;obtain⟨j,hj,rfl⟩:=nQ.1 hx;exact HA.out j _ (by omega) (aQ hj)
def Np.AE(l:List Np.Signed)(k:Nat)(x:Np.Signed):Prop:=x.set.type=3->(∀ p,0<k->l[k - 1]?=some p->p.set.name≠x.set.name)/\∀ n,l[k+1]?=some n->n.set.name=x.set.name->n.set.type=8
def Np.AM(l:List Np.Signed):Prop:=∀ k x,l[k]?=some x->Np.AE l k x
theorem TH(a:ByteArray)(v:Value)(A2:Option Addr)(n2 c2:Nat)(l:List Np.Signed)(cu:l.length<=20000)(w:World)(hd:SlR bK 5 w w.heap.size v l) :
 Calls prog 104 #[.agg #[.string a,v,.slice A2 n2 c2]] w λe w'=>e = .returned (.bool (Np.yes (Np.AM l)))/\Below w.heap.size w w':=by
 obtain⟨r,hr⟩:∃ r,Np.yes (Np.AM l)=r:=⟨_,rfl⟩;rw[hr];have HR:=jq hr;have HD:=jq hd;obtain⟨A,c,rfl,bC,bH⟩:=ag hd;clear hr hd;have HW:Hid (∀ o,Below w.heap.size w (w.alloc o)):=jq (λo=>(vQ _ w).alloc (bQ _) _);go_enter func104,ntmps104;go_wp2_with fail;obtain⟨w1,al⟩:∃ w1,w.alloc (.cells #[.string a,.slice A l.length c,.slice A2 n2 c2] 163)=w1:=⟨_,rfl⟩;have c2':w1.cell? ⟨w.heap.size,1,none⟩=some (.slice A l.length c):=by rw[<-al]; simp[go_sem]
 have fh:w.heap.size<w1.heap.size:=by rw[<-al]; simp
 have aF:Hid (Below w.heap.size w w1):=jq (by rw[<-al]; exact HW.out _);rw[al];clear al;go_loopw [10] (λi wr=>∃ k:Nat,k<=l.length/\i = .int .i64 k/\Hid (Below w1.heap.size w1 wr)/\Hid (∀ j x,j<k->l[j]?=some x->Np.AE l j x)) (λi _=>l.length - (intOf i).toNat)
 case atStart=>exact⟨0,jQ _,rfl,jq (vQ _ _),jq (λj x hj=>by omega)⟩
 case round=>
  obtain⟨k,hk,rfl,HB,HA⟩:=hrel;have an:=HB.out.size;have aD:=jq (aF.out.trans (HB.out.mono (by omega)));by_cases ab:k<l.length
  ·obtain⟨x,ac⟩:∃ x,l[k]?=some x:=⟨_,aQ ab⟩;obtain⟨b,o,c',sn,dv,sv,hA,bg,_,az,bL,bd,aL,e0,e1,e2,e3,e4⟩:=eT (HD.out.keep aV aD.out) ac
   cases hA
   have HN:Hid (Np.AE l k x->∀ j x,j<k+1->l[j]?=some x->Np.AE l j x):=jq (λh j y hj hy=>by
    by_cases e:j=k
    ·subst e; rw[ac] at hy; cases hy; exact h
    ·exact HA.out j y (by omega) hy)
   have HF:Hid (¬ Np.AE l k x->r=false):=jq (λh=>by
    rw[<-HR.out]; exact Np.aP λq=>h (q k x ac))
   have QC:Hid (∀ (m:Nat) (y:Np.Signed),l[m]?=some y->∃ (sy:ByteArray),sy.data.toList=y.set.name/\wr.cell? ⟨b,o+m * 5,none⟩=some (.string sy)/\wr.cell? ⟨b,o+m * 5+1,none⟩=some (.int .i64 y.set.type)):=jq (λm y hy=>by
    obtain⟨b9,o9,c9,sy,dv9,sv9,hA,_,_,iR,_,_,_,q0,q1,_⟩:=eT (HD.out.keep aV aD.out) hy;simp only[Value.slice.injEq,Option.some.injEq,Addr.mk.injEq,and_true,true_and] at hA;obtain⟨⟨rfl,rfl⟩,-⟩:=hA;exact⟨sy,iR,q0,q1⟩)
   clear ac;obtain⟨Ad,cd,rfl,_,_⟩:=ag bd;obtain⟨As,cs,rfl,_,_⟩:=ag aL;have hcell:wr.cell? ⟨w.heap.size,1,none⟩=some (.slice (some ⟨b,o,none⟩) l.length c):=(HB.out.cell (by dsimp only; omega)).trans c2';have dF:w.heap.size<wr.heap.size:=by omega
   have aq:b<wr.heap.size:=by omega
   have br:Hid (∀ o,Below w1.heap.size w1 (wr.alloc o)):=jq (λo=>HB.out.alloc HB.out.size _);have qg:Hid (∀ o,Below w.heap.size w (wr.alloc o)):=jq (λo=>aD.out.alloc (by omega) _);have bW:(0:Int)<=(k:Int):=by omega
   have bV:(k:Int)<(l.length:Int):=by omega
   have aS:=jq az;obtain⟨ty,dD⟩:∃ ty,x.set.type=ty:=⟨_,rfl⟩;have go:=jq dD;rw[dD] at e1;clear az bd aL dD;by_cases h3:ty=3
   ·obtain⟨w2,ai⟩:∃ w2,wr.alloc (.cells #[.string sn,.int .i64 ty,.int .i64 x.set.life,.slice Ad x.set.data.length cd,.slice As x.sigs.length cs] 68)=w2:=⟨_,rfl⟩;subst h3;have t3:((3:Int) != 3)=false:=by decide
    have K6:∃ q:Bool,Hid (q=true↔∃ p,0<k/\l[k - 1]?=some p/\p.set.name=x.set.name)/\((k=0/\q=false)\/∃ (m:Nat) (y:Np.Signed) (sy:ByteArray),k=m+1/\wr.cell? ⟨b,o+m * 5,none⟩=some (.string sy)/\(sy.toList == sn.toList)=q):=by
     by_cases jy:k=0
     ·exact⟨false,jq ⟨λh=>(by cases h),λ⟨p,h,_⟩=>(by omega)⟩,.inl ⟨jy,rfl⟩⟩
     ·obtain⟨m,rfl⟩:∃ m,k=m+1:=⟨k - 1,by omega⟩;obtain⟨y,hy⟩:∃ y,l[m]?=some y:=⟨_,aQ (by omega)⟩;obtain⟨sy,iR,q0,q1⟩:=QC.out m y hy;refine⟨_,jq ?_,.inr ⟨m,y,sy,rfl,q0,rfl⟩⟩;rw[dQ,dQ,iR,aS.out,beq_iff_eq];constructor
      ·intro h; exact⟨y,by omega,by simpa using hy,h⟩
      ·rintro⟨p,_,hp,h⟩;rw[show m+1 - 1=m by omega,hy] at hp
       cases hp; exact h
    have adX:∃ q1 q2:Bool,Hid (∀ n,l[k+1]?=some n->(q1=true↔n.set.name=x.set.name)/\(q2=true↔n.set.type≠8))/\((l.length=k+1/\q1=false)\/∃ (y:Np.Signed) (sy:ByteArray) (ny:Int),k+1<l.length/\wr.cell? ⟨b,o+(k+1) * 5,none⟩=some (.string sy)/\wr.cell? ⟨b,o+(k+1) * 5+1,none⟩=some (.int .i64 ny)/\(sy.toList == sn.toList)=q1/\(ny != 8)=q2):=by
     by_cases ou:l.length=k+1
     ·exact⟨false,false,jq (λn hn=>by have:=(cQ.1 hn).1; omega),.inl ⟨ou,rfl⟩⟩
     ·obtain⟨y,hy⟩:∃ y,l[k+1]?=some y:=⟨_,aQ (by omega)⟩;obtain⟨sy,iR,q0,q1⟩:=QC.out (k+1) y hy;refine⟨_,_,jq (λn hn=>?_),.inr ⟨y,sy,y.set.type,by omega,q0,q1,rfl,rfl⟩⟩;rw[hy] at hn; cases hn;rw[dQ,dQ,iR,aS.out,beq_iff_eq];exact⟨Iff.rfl,by simp⟩
    clear ai w2;obtain⟨qb,se,Bz⟩:=K6;obtain⟨q1,q2,E7,gO⟩:=adX;have R9:Hid (∀ o n,Below w1.heap.size w1 ((wr.alloc o).drewN n)):=jq (λo n=>below_drewN (HB.out.alloc HB.out.size _) _);have J7:Hid (∀ o n,Below w.heap.size w ((wr.alloc o).drewN n)):=jq (λo n=>below_drewN (aD.out.alloc (by omega) _) _);have xp:∀ o' n,(wr.alloc o').drewN n=(wr.alloc o').drewN n:=λ_ _=>rfl;clear xp
    cases qb with
    | true=>
     have HX:Hid (r=false):=jq (HF.out λh=>by
      obtain⟨p,yJ,hp,he⟩:=se.out.1 rfl;exact (h go.out).1 p yJ hp he)
     rcases Bz with ⟨_,h⟩ | ⟨m,y,sy,nl,g0,sB⟩
     ·cases h
     ·have kV:decide ((0:Int)<(k:Int))=true:=by simp; omega
      have lH:decide (0<k)=true:=by simp; omega
      have Ll:IntKind.i64.wrap ((k:Int) - 1)=(m:Int):=by rw[IntWalk.i64_in _ (by omega)]; omega
      have Fe:(k:Int) - 1=(m:Int):=by omega
      have nj:(0:Int)<=(m:Int):=by omega
      have sK:(m:Int)<(l.length:Int):=by omega
      clear nl;go_wp2_with fail;go_quiet (fail);go_wp2_with fail;go_ret;exact⟨aj HX.out.symm,J7.out _ _⟩
    | false=>
     have av:Hid (∀ p,0<k->l[k - 1]?=some p->p.set.name≠x.set.name):=jq (λp h0 hp he=>by
      have:=se.out.2 ⟨p,h0,hp,he⟩
      cases this)
     rcases Bz with ⟨jy,_⟩ | ⟨m,y,sy,nl,g0,sB⟩
     ·have kV:decide ((0:Int)<(k:Int))=false:=by simp; omega
      have lH:decide (0<k)=false:=by simp; omega
      clear jy;go_wp2_with fail;go_quiet (fail);go_wp2_with fail;obtain⟨w4,bN⟩:∃ w4,(wr.alloc (.cells #[.string sn,.int .i64 3,.int .i64 x.set.life,.slice Ad x.set.data.length cd,.slice As x.sigs.length cs] 68)).drewN nq=w4:=⟨_,rfl⟩;rw[bN];have wL:Hid (Below w1.heap.size w1 w4):=jq (by rw[<-bN]; exact R9.out _ _);have Jd:Hid (Below w.heap.size w w4):=jq (by rw[<-bN]; exact J7.out _ _);have am:Below wr.heap.size wr w4:=by rw[<-bN]; exact below_drewN ((vQ _ _).alloc (bQ _) _) _
      have n4:w4.cell? ⟨wr.heap.size,0,none⟩=some (.string sn):=by rw[<-bN]; simp[go_sem]
      have FN:w4.cell? ⟨w.heap.size,1,none⟩=some (.slice (some ⟨b,o,none⟩) l.length c):=(am.cell (by dsimp only; omega)).trans hcell;rcases gO with ⟨ou,rfl⟩ | ⟨y',sy',ny,ou,k0,k1,IN,um⟩
      ·have HX:=jq (HN.out (λ_=>⟨av.out,λn hn=>by have:=(cQ.1 hn).1; omega⟩));have aA:decide ((k:Int)+1<(l.length:Int))=false:=by simp; omega
       have eD:decide (k+1<l.length)=false:=by simp; omega
       clear ou;clear am bN;go_wp2_with fail;go_quiet (fail);go_wp2_with fail;go_roundw
       case rel=>exact⟨k+1,by omega,by go_num,jq (below_drewN wL.out _),jq HX.out⟩
       case measure=>simp[intOf] <;> omega
      ·have k04:w4.cell? ⟨b,o+(k+1) * 5,none⟩=some (.string sy'):=(am.cell (by dsimp only; omega)).trans k0;have k14:w4.cell? ⟨b,o+(k+1) * 5+1,none⟩=some (.int .i64 ny):=(am.cell (by dsimp only; omega)).trans k1;obtain⟨j,hj⟩:∃ j,k+1=j:=⟨_,rfl⟩;have ha:IntKind.i64.wrap ((k:Int)+1)=(j:Int):=by rw[IntWalk.i64_in _ (by omega)]; omega
       have ha2:(k:Int)+1=(j:Int):=by omega
       have aA:decide ((j:Int)<(l.length:Int))=true:=by simp; omega
       have eD:decide (j<l.length)=true:=by simp; omega
       have jx:(0:Int)<=(j:Int):=by omega
       have qJ:(j:Int)<(l.length:Int):=by omega
       rw[hj] at k04 k14 E7;have HJ:=jq hj;have aW:b<w4.heap.size:=by have:=am.size; omega
       clear am bN k0 k1 hj ou;obtain⟨n,hn⟩:∃ n,l[j]?=some n:=⟨_,aQ (by omega)⟩;have pa:=jq (E7.out n hn);have dh:=jq hn;clear hn
       cases q1 with
       | false=>
        have HX:=jq (HN.out (λ_=>⟨av.out,λn' hn' he=>by
         rw[HJ.out,dh.out] at hn'; cases hn'
         have:=pa.out.1.2 he
         cases this⟩))
        go_wp2_with fail;go_quiet (fail);go_wp2_with fail;go_roundw
        case rel=>exact⟨k+1,by omega,by go_num,jq (below_drewN wL.out _),jq HX.out⟩
        case measure=>simp[intOf] <;> omega
       | true=>
        cases q2 with
        | false=>
         have HX:=jq (HN.out (λ_=>⟨av.out,λn' hn' _=>by
          rw[HJ.out,dh.out] at hn'; cases hn';refine Decidable.not_not.1 λh8=>?_
          have:=pa.out.2.2 h8
          cases this⟩))
         go_wp2_with fail;go_quiet (fail);go_wp2_with fail;go_roundw
         case rel=>exact⟨k+1,by omega,by go_num,jq (below_drewN wL.out _),jq HX.out⟩
         case measure=>simp[intOf] <;> omega
        | true=>
         have HX:Hid (r=false):=jq (HF.out λh=>(pa.out.2.1 rfl) ((h go.out).2 n (by rw[HJ.out]; exact dh.out) (pa.out.1.1 rfl)));go_wp2_with fail;go_quiet (fail);go_wp2_with fail;go_ret;exact⟨aj HX.out.symm,below_drewN Jd.out _⟩
     ·have kV:decide ((0:Int)<(k:Int))=true:=by simp; omega
      have lH:decide (0<k)=true:=by simp; omega
      have Ll:IntKind.i64.wrap ((k:Int) - 1)=(m:Int):=by rw[IntWalk.i64_in _ (by omega)]; omega
      have Fe:(k:Int) - 1=(m:Int):=by omega
      have nj:(0:Int)<=(m:Int):=by omega
      have sK:(m:Int)<(l.length:Int):=by omega
      clear nl;go_wp2_with fail;go_quiet (fail);go_wp2_with fail;obtain⟨w4,bN⟩:∃ w4,(wr.alloc (.cells #[.string sn,.int .i64 3,.int .i64 x.set.life,.slice Ad x.set.data.length cd,.slice As x.sigs.length cs] 68)).drewN nq=w4:=⟨_,rfl⟩;rw[bN];have wL:Hid (Below w1.heap.size w1 w4):=jq (by rw[<-bN]; exact R9.out _ _);have Jd:Hid (Below w.heap.size w w4):=jq (by rw[<-bN]; exact J7.out _ _);have am:Below wr.heap.size wr w4:=by rw[<-bN]; exact below_drewN ((vQ _ _).alloc (bQ _) _) _
      have n4:w4.cell? ⟨wr.heap.size,0,none⟩=some (.string sn):=by rw[<-bN]; simp[go_sem]
      have FN:w4.cell? ⟨w.heap.size,1,none⟩=some (.slice (some ⟨b,o,none⟩) l.length c):=(am.cell (by dsimp only; omega)).trans hcell;rcases gO with ⟨ou,rfl⟩ | ⟨y',sy',ny,ou,k0,k1,IN,um⟩
      ·have HX:=jq (HN.out (λ_=>⟨av.out,λn hn=>by have:=(cQ.1 hn).1; omega⟩));have aA:decide ((k:Int)+1<(l.length:Int))=false:=by simp; omega
       have eD:decide (k+1<l.length)=false:=by simp; omega
       clear ou;clear am bN;go_wp2_with fail;go_quiet (fail);go_wp2_with fail;go_roundw
       case rel=>exact⟨k+1,by omega,by go_num,jq (below_drewN wL.out _),jq HX.out⟩
       case measure=>simp[intOf] <;> omega
      ·have k04:w4.cell? ⟨b,o+(k+1) * 5,none⟩=some (.string sy'):=(am.cell (by dsimp only; omega)).trans k0;have k14:w4.cell? ⟨b,o+(k+1) * 5+1,none⟩=some (.int .i64 ny):=(am.cell (by dsimp only; omega)).trans k1;obtain⟨j,hj⟩:∃ j,k+1=j:=⟨_,rfl⟩;have ha:IntKind.i64.wrap ((k:Int)+1)=(j:Int):=by rw[IntWalk.i64_in _ (by omega)]; omega
       have ha2:(k:Int)+1=(j:Int):=by omega
       have aA:decide ((j:Int)<(l.length:Int))=true:=by simp; omega
       have eD:decide (j<l.length)=true:=by simp; omega
       have jx:(0:Int)<=(j:Int):=by omega
       have qJ:(j:Int)<(l.length:Int):=by omega
       rw[hj] at k04 k14 E7;have HJ:=jq hj;have aW:b<w4.heap.size:=by have:=am.size; omega
       clear am bN k0 k1 hj ou;obtain⟨n,hn⟩:∃ n,l[j]?=some n:=⟨_,aQ (by omega)⟩;have pa:=jq (E7.out n hn);have dh:=jq hn;clear hn
       cases q1 with
       | false=>
        have HX:=jq (HN.out (λ_=>⟨av.out,λn' hn' he=>by
         rw[HJ.out,dh.out] at hn'; cases hn'
         have:=pa.out.1.2 he
         cases this⟩))
        go_wp2_with fail;go_quiet (fail);go_wp2_with fail;go_roundw
        case rel=>exact⟨k+1,by omega,by go_num,jq (below_drewN wL.out _),jq HX.out⟩
        case measure=>simp[intOf] <;> omega
       | true=>
        cases q2 with
        | false=>
         have HX:=jq (HN.out (λ_=>⟨av.out,λn' hn' _=>by
          rw[HJ.out,dh.out] at hn'; cases hn';refine Decidable.not_not.1 λh8=>?_
          have:=pa.out.2.2 h8
          cases this⟩))
         go_wp2_with fail;go_quiet (fail);go_wp2_with fail;go_roundw
         case rel=>exact⟨k+1,by omega,by go_num,jq (below_drewN wL.out _),jq HX.out⟩
         case measure=>simp[intOf] <;> omega
        | true=>
         have HX:Hid (r=false):=jq (HF.out λh=>(pa.out.2.1 rfl) ((h go.out).2 n (by rw[HJ.out]; exact dh.out) (pa.out.1.1 rfl)));go_wp2_with fail;go_quiet (fail);go_wp2_with fail;go_ret;exact⟨aj HX.out.symm,below_drewN Jd.out _⟩
   ·have HX:=jq (HN.out (λh=>absurd (go.out.symm.trans h) h3));have h3':(ty != 3)=true:=by simpa using h3
    clear h3;go_wp2_with fail;go_roundw
    case rel=>exact⟨k+1,by omega,by go_num,jq (br.out _),jq HX.out⟩
    case measure=>simp[intOf] <;> omega
  ·go_wp2_with fail;go_ret;refine⟨aj ?_,aD.out⟩;rw[<-HR.out];exact (Np.bO λi x hx=>HA.out i x (by have:=(cQ.1 hx).1; omega) hx).symm
end
end Go.Proofs.YtbfbobfbgabjiaaGreatDoor
