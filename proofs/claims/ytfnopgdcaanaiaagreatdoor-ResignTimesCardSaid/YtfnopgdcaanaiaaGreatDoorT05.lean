/- Parts of the proof. No condition. -/
import Derived.Test.YtfnopgdcaanaiaaGreatDoorT01
set_option linter.all false
set_option maxRecDepth 100000
set_option maxHeartbeats 8000000
namespace Go.Proofs.YtfnopgdcaanaiaaGreatDoor
open Go.Proofs.Tryz
section
open Go.RowKit
def cr(_:World)(_:Nat)(e:List Value)(g:Np.Sig):Prop:=∃ s:ByteArray,s.data.toList=g.zone/\s.size<=140737488355328/\e = [.string s,.int .i64 g.key,.int .i64 g.alg,.int .i64 g.frm,.int .i64 g.til,.int .u64 g.sum]
theorem cC:cj cr:=λ_ _ _ _ _ h _=>h
theorem cZ:cB cr:=λ_ _ _ _ _ h _=>h
def cU(W:World)(B:Nat)(e:List Value)(x:Np.Signed):Prop:=∃ (s:ByteArray) (v u:Value),s.data.toList=x.set.name/\s.size<=140737488355328/\SlR bI 3 W B v x.set.data/\SlR cr 6 W B u x.sigs/\e = [.string s,.int .i64 x.set.type,.int .i64 x.set.life,v,u]
theorem da:cj cU:=λ_ _ _ _ _ ⟨s,v,u,h1,h2,h3,h4,h5⟩ hb=>⟨s,v,u,h1,h2,h3.keep bq hb,h4.keep cC hb,h5⟩
theorem gm:cB cU:=λ_ _ _ _ _ ⟨s,v,u,h1,h2,h3,h4,h5⟩ hb=>⟨s,v,u,h1,h2,h3.more bD hb,h4.more cZ hb,h5⟩
theorem SlR.later{α:Type}{R:agJ α}{sz:Nat}{w w':World}{v:Value}{xs:List α}(hk:cj R)(hm:cB R)(h:SlR R sz w w.heap.size v xs)(hb:Below w.heap.size w w'):SlR R sz w' w'.heap.size v xs:=(h.keep hk hb).more hm hb.size
theorem QB{w:World}{B:Nat}{v:Value}{xs:List Np.Datum}(h:SlR bI 3 w B v xs){k:Nat}{x:Np.Datum}(hx:xs[k]?=some x):∃ (b o c:Nat) (s:ByteArray),v = .slice (some ⟨b,o,none⟩) xs.length c/\b<B/\xs.length<=c/\s.data.toList=x.text/\s.size<=140737488355328/\
 w.cell? ⟨b,o+k * 3,none⟩=some (.string s)/\w.cell? ⟨b,o+k * 3+1,none⟩=some (.int .i64 x.n)/\w.cell? ⟨b,o+k * 3+2,none⟩=some (.int .i64 x.m):=by
 obtain⟨A,c,rfl,hc,_,he⟩:=h;obtain⟨b,o,e,rfl,hb,_,hce,s,h1,h2,rfl⟩:=he k x hx;exact⟨b,o,c,s,rfl,hb,hc,h1,h2,by have:=hce 0 _ rfl;simpa using this,hce 1 _ rfl,hce 2 _ rfl⟩
theorem iV{w:World}{B:Nat}{v:Value}{xs:List Np.Signed}(h:SlR cU 5 w B v xs){k:Nat}{x:Np.Signed}(hx:xs[k]?=some x):∃ (b o c:Nat) (s:ByteArray) (dv sv:Value),v = .slice (some ⟨b,o,none⟩) xs.length c/\b<B/\xs.length<=c/\s.data.toList=x.set.name/\s.size<=140737488355328/\SlR bI 3 w B dv x.set.data/\SlR cr 6 w B sv x.sigs/\
 w.cell? ⟨b,o+k * 5,none⟩=some (.string s)/\w.cell? ⟨b,o+k * 5+1,none⟩=some (.int .i64 x.set.type)/\w.cell? ⟨b,o+k * 5+2,none⟩=some (.int .i64 x.set.life)/\w.cell? ⟨b,o+k * 5+3,none⟩=some dv/\w.cell? ⟨b,o+k * 5+4,none⟩=some sv:=by
 obtain⟨A,c,rfl,hc,_,he⟩:=h;obtain⟨b,o,e,rfl,hb,_,hce,s,dv,sv,h1,h2,h3,h4,rfl⟩:=he k x hx;exact⟨b,o,c,s,dv,sv,rfl,hb,hc,h1,h2,h3,h4,by have:=hce 0 _ rfl;simpa using this,hce 1 _ rfl,hce 2 _ rfl,hce 3 _ rfl,hce 4 _ rfl⟩
theorem ar{α:Type}{R:agJ α}{sz:Nat}{w:World}{B:Nat}{v:Value}{xs:List α}(h:SlR R sz w B v xs):∃ A c,v = .slice A xs.length c/\xs.length<=c/\xs.length<=140737488355328:=by
 obtain⟨A,c,h1,h2,h3,_⟩:=h;exact⟨A,c,h1,h2,h3⟩
end
section
open Go.RowKit Go.Shelf
section
variable {α:Type}
def jC(p:α->Bool):List α->Int
 | []=>-1
 | x::xs=>if p x then 0 else if jC p xs = -1 then -1 else jC p xs+1
theorem Il(p:α->Bool)(xs:List α)(h:∀ x∈xs,p x=false):jC p xs = -1:=by
 induction xs with
 | nil=>rfl
 | cons x r ih=>rw[jC,Qc (by simp[h x (by simp)]),Qb (ih (λy hy=>h y (by simp[hy])))]
theorem Ij(p:α->Bool)(xs:List α)(k:Nat)(hk:k<xs.length)(h:∀ x∈xs.take k,p x=false)(hx:p xs[k]=true):jC p xs=k:=by
 induction xs generalizing k with
 | nil=>simp at hk
 | cons x r ih=>
  cases k with
  | zero=>simp at hx;simp[jC,hx]
  | succ k=>
   have h0:p x=false:=h x (by simp)
   have:=ih k (by simpa using hk) (λy hy=>h y (by simp[hy])) (by simpa using hx)
   rw[jC,Qc (by simp[h0]),Qc (by omega),this];simp
theorem Ik(p:α->Bool)(xs:List α):decide (0<=jC p xs)=xs.any p:=by
 induction xs with
 | nil=>rfl
 | cons x r ih=>
  rw[jC];by_cases h:p x=true
  ·simp[h]
  ·rw[Qc h];have h':p x=false:=by simpa using h
   rw[List.any_cons,h',Bool.false_or,<-ih];split
   ·rename_i e;rw[e]
   ·rename_i e;have : -1<=jC p r:=by
     clear ih h h' e
     induction r with
     | nil=>simp[jC]
     | cons y r ih2=>rw[jC];split;omega;split <;> omega
    rw[Bool.eq_iff_iff];simp;omega
end
def cm(_:World)(_:Nat)(e:List Value)(x:Np.Span):Prop:=e = [.int .i64 x.frm,.int .i64 x.til]
theorem cI:cj cm:=λ_ _ _ _ _ h _=>h
theorem iw:cB cm:=λ_ _ _ _ _ h _=>h
def Np.xF(l:List Np.Span)(t:Int):Bool:=l.any λs=>decide (s.frm<=t)&&decide (t<s.til)
def Np.fP(p:Option Int)(s:Np.Span):Bool:=decide (0<=s.frm)&&(decide (s.frm<s.til)&&(decide (s.til<=20000000)&&(match p with | none=>true | some u=>decide (u<s.frm))))
def Np.ix:Option Int->List Np.Span->Bool
 | _,[]=>true
 | p,s::r=>Np.fP p s&&Np.ix (some s.til) r
def Np.js(l:List Np.Span):Bool:=decide (l.length<=20000)&&Np.ix none l
def Np.iu(l:List Np.Span):Option Int:=l.getLast?.map (·.til)
theorem Bw{l:List Np.Span}{k:Nat}{s:Np.Span}(hs:l[k]?=some s)(h:Np.fP (Np.iu (l.take k)) s=false):Np.ix (Np.iu (l.take k)) (l.drop k)=false:=by
 rw[sQ (cQ.1 hs).1,(cQ.1 hs).2];simp[Np.ix,h]
theorem LR{l:List Np.Span}{k:Nat}{s:Np.Span}(hs:l[k]?=some s)(h:Np.fP (Np.iu (l.take k)) s=true):Np.ix (Np.iu (l.take k)) (l.drop k)=Np.ix (Np.iu (l.take (k+1))) (l.drop (k+1)):=by
 have h1:=(cQ.1 hs);rw[sQ h1.1,h1.2,fQ h1.1,h1.2];rw[Np.ix,h,Bool.true_and];simp[Np.iu]
theorem UU{l:List Np.Span}{k:Nat}{s:Np.Span}(hs:l[k]?=some s):Np.iu (l.take (k+1))=some s.til:=by
 have h1:=(cQ.1 hs);rw[fQ h1.1,h1.2];simp[Np.iu]
theorem LP(v:Value)(l:List Np.Span)(w:World)(h:SlR cm 2 w w.heap.size v l) :
 Calls prog 53 #[v] w (agQ w.heap.size w (.bool (Np.js l))):=by
 have H:=jq h;obtain⟨A,c,rfl,aT,cu,ej⟩:=h;clear ej;by_cases dG:l.length<=20000
 ·have HV:Hid (Np.js l=Np.ix none l):=jq (by simp[Np.js,dG]);go_enter func53,ntmps53;go_wp2_with fail;go_loopw [10] (λi wr=>∃ k:Nat,k<=l.length/\i = .int .i64 k/\Below w.heap.size w wr/\Hid (Np.ix none l=Np.ix (Np.iu (l.take k)) (l.drop k))) (λi _=>l.length - (intOf i).toNat)
  case atStart=>exact⟨0,jQ _,rfl,vQ _ _,jq rfl⟩
  case round=>
   obtain⟨k,hk,rfl,hb,HA⟩:=hrel;by_cases aa:k<l.length
   ·obtain⟨A',c',hA',_,_,aL⟩:=H.out.keep cI hb
    cases hA'
    obtain⟨b,o,e,rfl,bC,hlen,hce,hR⟩:=aL k _ (aQ aa);obtain rfl:=hR;have h0:wr.cell? ⟨b,o+k * 2,none⟩=some (.int .i64 l[k].frm):=hce 0 _ rfl;have h1:wr.cell? ⟨b,o+k * 2+1,none⟩=some (.int .i64 l[k].til):=hce 1 _ rfl;have HS:Hid (l[k]?=some l[k]):=jq (aQ aa);have vl:=hb.size;have dN:=jq hb;clear hce hb;have I9:b<wr.heap.size:=by omega
    have DZ:(decide (l[k].frm<0)=true)\/(decide (l[k].frm<0)=false/\decide (l[k].til<=l[k].frm)=true)\/(decide (l[k].frm<0)=false/\decide (l[k].til<=l[k].frm)=false/\decide (20000000<l[k].til)=true)\/(decide (l[k].frm<0)=false/\decide (l[k].til<=l[k].frm)=false/\decide (20000000<l[k].til)=false):=by
     simp only[Qa,decide_eq_false_iff_not];omega
    rcases DZ with d1 | ⟨d1,d2⟩ | ⟨d1,d2,d3⟩ | ⟨d1,d2,d3⟩
    ·have HX:Hid (Np.fP (Np.iu (l.take k)) l[k]=false):=jq (by unfold Np.fP;rw[show decide (0<=l[k].frm)=false by simp at d1 |-;omega];rfl);clear aL;go_wp2_with fail;go_quiet (fail);go_wp2_with fail;go_ret;exact⟨aj (by rw[HV.out,HA.out,Bw HS.out HX.out]),below_drewN (dN.out.alloc dN.out.size _) _⟩
    ·have HX:Hid (Np.fP (Np.iu (l.take k)) l[k]=false):=jq (by unfold Np.fP;rw[show decide (l[k].frm<l[k].til)=false by simp at d2 |-;omega];simp);clear aL;go_wp2_with fail;go_quiet (fail);go_wp2_with fail;go_ret;exact⟨aj (by rw[HV.out,HA.out,Bw HS.out HX.out]),below_drewN (dN.out.alloc dN.out.size _) _⟩
    ·have HX:Hid (Np.fP (Np.iu (l.take k)) l[k]=false):=jq (by unfold Np.fP;rw[show decide (l[k].til<=20000000)=false by simp at d3 |-;omega];simp);clear aL;go_wp2_with fail;go_quiet (fail);go_wp2_with fail;go_ret;exact⟨aj (by rw[HV.out,HA.out,Bw HS.out HX.out]),below_drewN (dN.out.alloc dN.out.size _) _⟩
    ·have g1:decide (0<=l[k].frm)=true:=by simp at d1 |-;omega
     have g2:decide (l[k].frm<l[k].til)=true:=by simp at d2 |-;omega
     have g3:decide (l[k].til<=20000000)=true:=by simp at d3 |-;omega
     by_cases cN:0<k
     ·obtain⟨m,rfl⟩:∃ m,k=m+1:=⟨k - 1,by omega⟩;obtain⟨b',o',e',hb',_,_,pb,hR'⟩:=aL m _ (aQ (by omega))
      cases hb'
      obtain rfl:=hR';have p1:wr.cell? ⟨b,o+m * 2+1,none⟩=some (.int .i64 (l[m]'(by omega)).til):=pb 1 _ rfl;have zC:Np.iu (l.take (m+1))=some (l[m]'(by omega)).til:=UU (aQ (by omega));have nU:decide ((0:Int)<((m+1:Nat):Int))=true:=by simp
      have JN:(((m+1:Nat):Int) - 1)=(m:Int):=by omega
      by_cases AB:l[m+1].frm<=(l[m]'(by omega)).til
      ·have d4:decide (l[m+1].frm<=(l[m]'(by omega)).til)=true:=by simpa using AB
       have HX:Hid (Np.fP (Np.iu (l.take (m+1))) l[m+1]=false):=jq (by rw[zC];simp only[Np.fP,g1,g2,g3,Bool.true_and];simp;omega);clear aL pb zC AB g1 g2 g3;go_wp2_with fail;go_quiet (fail);go_wp2_with fail;go_ret;exact⟨aj (by rw[HV.out,HA.out,Bw HS.out HX.out]),below_drewN (dN.out.alloc dN.out.size _) _⟩
      ·have d4:decide (l[m+1].frm<=(l[m]'(by omega)).til)=false:=by simpa using AB
       have HX:Hid (Np.fP (Np.iu (l.take (m+1))) l[m+1]=true):=jq (by rw[zC];simp only[Np.fP,g1,g2,g3,Bool.true_and];simp;omega);clear aL pb zC AB g1 g2 g3;go_wp2_with fail;go_quiet (fail);go_wp2_with fail;go_roundw
       case rel=>exact⟨m+1+1,by omega,by go_num,below_drewN (dN.out.alloc dN.out.size _) _,jq (by rw[HA.out,LR HS.out HX.out])⟩
       case measure=>simp[intOf] <;> omega
     ·have hz:k=0:=by omega
      have HX:Hid (Np.fP (Np.iu (l.take k)) l[k]=true):=jq (by
       have:Np.iu (l.take k)=none:=by rw[hz];rfl
       rw[this];simp only[Np.fP,g1,g2,g3,Bool.true_and])
      have nU:decide ((0:Int)<(k:Int))=false:=by simp;omega
      have qV:decide (0<k)=false:=by simp;omega
      clear aL hz cN g1 g2 g3;go_wp2_with fail;go_quiet (fail);go_wp2_with fail;go_roundw
      case rel=>exact⟨k+1,by omega,by go_num,below_drewN (dN.out.alloc dN.out.size _) _,jq (by rw[HA.out,LR HS.out HX.out])⟩
      case measure=>simp[intOf] <;> omega
   ·go_wp2_with fail;go_ret;refine⟨aj ?_,hb⟩;rw[HV.out,HA.out,List.drop_of_length_le (by omega)];rfl
 ·have Y6:20000<l.length:=by omega
  clear dG;go_enter func53,ntmps53;go_wp2_with fail;go_ret;exact⟨aj (by simp[Np.js];omega),vQ _ _⟩
end
namespace Np
def Stop(y:List UInt8):Prop:=y = []\/∃ c r,y=c::r/\mL c=false
def Lx(x:List UInt8)(ts:List Tok)(free:Bool):Prop:=
 ∀ (y:List UInt8) (p k:Nat),(free=true\/Stop y)->k<=2000->
   (k+ts.length<=2000->∃ ts',ts'.map zd=ts.map zd/\kW (x++y) p k=(ts'++(kW y (p+x.length) (k+ts.length)).1,(kW y (p+x.length) (k+ts.length)).2))/\
   (2000<k+ts.length->(kW (x++y) p k).2.1=2)
theorem Lx.weaken{x:List UInt8}{ts:List Tok}{f:Bool}(h:Lx x ts f):Lx x ts false:=λy p k hy hk=>
 h y p k (.inr (by rcases hy with hy | hy;cases hy;exact hy)) hk
theorem Lx.app{x x':List UInt8}{ts ts':List Tok}{f f':Bool}(h:Lx x ts f)(h':Lx x' ts' f')(hf:f=true\/∃ c r,x'=c::r/\mL c=false):Lx (x++x') (ts++ts') f':=by
 intro y p k hy hk;have hs:f=true\/Stop (x'++y):=hf.imp id (λ⟨c,r,e,hc⟩=>.inr ⟨c,r++y,by rw[e];rfl,hc⟩);obtain⟨h1,h2⟩:=h (x'++y) p k hs hk;rw[List.append_assoc];constructor
 ·intro hl;rw[List.length_append] at hl;obtain⟨t1,e1,e2⟩:=h1 (by omega);obtain⟨t2,e3,e4⟩:=(h' y (p+x.length) (k+ts.length) hy (by omega)).1 (by omega);refine⟨t1++t2,by rw[List.map_append,List.map_append,e1,e3],?_⟩;rw[e2,e4];simp only[List.length_append,List.append_assoc,Nat.add_assoc]
 ·intro hl;rw[List.length_append] at hl;by_cases fi:k+ts.length<=2000
  ·obtain⟨t1,e1,e2⟩:=h1 fi;rw[e2];exact (h' y (p+x.length) (k+ts.length) hy fi).2 (by omega)
  ·exact h2 (by omega)
theorem U9:∀ (s:List UInt8) (c:UInt8),c∈s->c=46\/∃ x∈aS s,c∈x:=by
 intro s
 induction s with
 | nil=>intro c h;cases h
 | cons a r ih=>
  intro c hc;rw[aS];by_cases ha:a=46
  ·rw[Qb ha];rcases List.mem_cons.1 hc with e | e
   ·exact .inl (e.trans ha)
   ·rcases ih c e with h | ⟨x,hx,zW⟩
    ·exact .inl h
    ·exact .inr ⟨x,mQ _ hx,zW⟩
  ·rw[Qc ha];have hne:=pS r
   cases hr:aS r with
   | nil=>exact absurd hr hne
   | cons y ys=>
    rw[hr] at ih;rcases List.mem_cons.1 hc with e | e
    ·exact .inr ⟨a::y,by simp,by simp[e]⟩
    ·rcases ih c e with h | ⟨x,hx,zW⟩
     ·exact .inl h
     ·rcases List.mem_cons.1 hx with rfl | hx
      ·exact .inr ⟨a::x,by simp,by simp[zW]⟩
      ·exact .inr ⟨x,by simp[hx],zW⟩
theorem UJ{c:UInt8}(h:lX c=true):mL c=true:=by
 unfold lX at h;have hl:∀ c:UInt8,rm c=true\/mK c=true->cls c=3:=by
  intro c h;have hne:¬ (c=32\/c=9\/c=10)/\c≠35:=by
   constructor
   ·rintro (rfl | rfl | rfl) <;> revert h <;> decide
   ·rintro rfl;revert h;decide
  unfold cls;rw[Qc hne.1,Qc hne.2,Qb (by rcases h with h | h <;> simp[h])]
 simp only[Bool.or_eq_true,beq_iff_eq] at h;unfold mL;rcases h with h | h
 ·rw[hl c h];rfl
 ·subst h;decide
theorem U4{c:UInt8}(h:rm c=true\/mK c=true):cls c=3:=by
 have hne:¬ (c=32\/c=9\/c=10)/\c≠35:=by
  constructor
  ·rintro (rfl | rfl | rfl) <;> revert h <;> decide
  ·rintro rfl;revert h;decide
 unfold cls;rw[Qc hne.1,Qc hne.2,Qb (by rcases h with h | h <;> simp[h])]
theorem UK{x:List UInt8}(h:cH x=true\/x = [42]):∀ c∈x,mL c=true:=by
 rcases h with h | rfl
 ·unfold cH at h;simp only[Bool.and_eq_true] at h;exact λc hc=>UJ (List.all_eq_true.1 h.2 c hc)
 ·intro c hc;simp at hc;subst hc;decide
theorem UL{x:List UInt8}(h:cH x=true\/x = [42]):∃ c r,x=c::r/\cls c=3:=by
 rcases h with h | rfl
 ·unfold cH at h;simp only[Bool.and_eq_true,Qa,Bool.not_eq_true',beq_eq_false_iff_ne] at h
  cases x with
  | nil=>simp at h
  | cons c r=>
   refine⟨c,r,rfl,U4 ?_⟩;have h1:=List.all_eq_true.1 h.2 c (by simp);have h2:=h.1.1.2;simp only[List.head?_cons,ne_eq,Option.some.injEq] at h2;simp only[lX,Bool.or_eq_true,beq_iff_eq] at h1;rcases h1 with h1 | h1
   ·exact h1
   ·exact absurd h1 h2
 ·exact⟨42,[],rfl,by decide⟩
theorem E8:∀ (s:List UInt8),∃ h t,aS s=h::t/\(∀ c r,h=c::r->∃ r',s=c::r'):=by
 intro s
 cases s with
 | nil=>exact⟨[],[],rfl,λc r h=>by cases h⟩
 | cons a r=>
  rw[aS];by_cases ha:a=46
  ·rw[Qb ha];exact⟨[],_,rfl,λc r h=>by cases h⟩
  ·rw[Qc ha];have hne:=pS r
   cases hr:aS r with
   | nil=>exact absurd hr hne
   | cons x xs=>exact⟨a::x,xs,rfl,λc r' h=>by cases h;exact⟨_,rfl⟩⟩
theorem tt{s:List UInt8}(h:aG s=true):s.length<=60/\(s = [46]\/∃ c r,s=c::r/\cls c=3/\s.all mL=true):=by
 unfold aG at h;split at h
 ·rename_i e;subst e;exact⟨by decide,.inl rfl⟩
 ·split at h
  ·cases h
  ·rename_i Rz;have hg:=IC _ _ _ h;have hl:∀ x∈aS s,cH x=true\/x = [42]:=λx hx=>(hg x (List.mem_reverse.2 hx)).symm;obtain⟨a,t,e1,e2⟩:=E8 s;obtain⟨c,r,rfl,hc⟩:=UL (hl a (by rw[e1];simp));obtain⟨r',rfl⟩:=e2 c r rfl;refine⟨by omega,.inr ⟨c,r',rfl,hc,List.all_eq_true.2 λb hb=>?_⟩⟩;rcases U9 _ b hb with rfl | ⟨x,hx,dX⟩
   ·decide
   ·exact UK (hl x hx) b dX
theorem Ig{k:Nat}(h:k<10):mK (UInt8.ofNat (48+k))=true/\(UInt8.ofNat (48+k)).toNat=48+k:=by
 have:k=0\/k=1\/k=2\/k=3\/k=4\/k=5\/k=6\/k=7\/k=8\/k=9:=by omega
 rcases this with rfl | rfl | rfl | rfl | rfl | rfl | rfl | rfl | rfl | rfl <;> exact⟨by decide,by decide⟩
theorem Df(n:Nat):(j5 n).all mK=true/\j5 n≠[]/\dec (j5 n)=n/\(1<=n->(j5 n).head?≠some 48)/\(n<10->(j5 n).length=1):=by
 induction n using Nat.strongRecOn with
 | ind n ih=>
  rw[j5];split
  ·rename_i h;have hd:=Ig h;refine⟨by rw[List.all_cons,hd.1];rfl,by simp,by show 10 * 0+((UInt8.ofNat (48+n)).toNat - 48)=n;rw[hd.2];omega,λh1=>?_,λ_=>rfl⟩;simp only[List.head?_cons,ne_eq,Option.some.injEq];intro e
   have:=Qd UInt8.toNat e
   rw[hd.2] at this;simp at this;omega
  ·rename_i h;obtain⟨i1,i2,i3,i4,_⟩:=ih (n / 10) (by omega);have hd:=Ig (k:=n % 10) (by omega);refine⟨by rw[List.all_append,i1,List.all_cons,hd.1];rfl,by simp,?_,λ_=>?_,λh2=>absurd h2 h⟩
   ·rw[QD,i3,hd.2];omega
   ·rw[Sn i2];exact i4 (by omega)
def sa:List (List UInt8)->List (List Tok)->Prop
 | [],[]=>True
 | w::ws,t::ts=>Lx w t false/\sa ws ts
 | _,_=>False
theorem sa.app:∀ {a b:List (List UInt8)} {s t:List (List Tok)},sa a s->sa b t->sa (a++b) (s++t)
 | [],_,[],_,_,h=>h
 | _::_,_,_::_,_,h,h'=>⟨h.1,sa.app h.2 h'⟩
 | [],_,_::_,_,h,_=>h.elim
 | _::_,_,[],_,h,_=>h.elim
def bA(n:Int):List UInt8:=j5 n.toNat
def oY(d:Datum):List (List UInt8):=[d.text,bA d.n,bA d.m]
def om(g:Sig):List (List UInt8):=[g.zone,bA g.key,bA g.alg,bA g.frm,bA g.til,bA g.sum]
def uK(s:Signed):List (List UInt8):=[s.set.name,bA s.set.type,bA s.set.life,bA s.set.data.length]++(s.set.data.flatMap oY++s.sigs.flatMap om)
def eL(l:List (List UInt8)):List UInt8:=l.flatMap λf=>f ++ [47]
def gL(s:Signed):List UInt8:=eL (uK s)
theorem LH:∀ (x y r q:List UInt8),47∉x->47∉y->x++47::r=y++47::q->x=y/\r=q
 | [],[],r,q,_,_,h=>⟨rfl,by simpa using h⟩
 | [],b::y,r,q,_,hy,h=>by
   simp only[List.nil_append,List.cons_append,List.cons.injEq] at h;exact absurd (h.1 ▸ List.mem_cons_self) hy
 | a::x,[],r,q,hx,_,h=>by
   simp only[List.nil_append,List.cons_append,List.cons.injEq] at h;exact absurd (h.1 ▸ List.mem_cons_self) hx
 | a::x,b::y,r,q,hx,hy,h=>by
   simp only[List.cons_append,List.cons.injEq] at h;obtain⟨h1,h2⟩:=LH x y r q (λhm=>hx (mQ _ hm)) (λhm=>hy (mQ _ hm)) h.2;exact⟨by rw[h.1,h1],h2⟩
theorem uJ(f:List UInt8)(l:List (List UInt8)):eL (f::l)=f++47::eL l:=by simp[eL]
theorem Ih:∀ (a b:List (List UInt8)),(∀ x∈a,47∉x)->(∀ x∈b,47∉x)->eL a=eL b->a=b
 | [],[],_,_,_=>rfl
 | [],f::b,_,_,h=>by rw[uJ] at h;simp[eL] at h
 | f::a,[],_,_,h=>by rw[uJ] at h;simp[eL] at h
 | f::a,g::b,ha,hb,h=>by
   rw[uJ,uJ] at h;obtain⟨h1,h2⟩:=LH f g _ _ (ha f (by simp)) (hb g (by simp)) h;rw[h1,Ih a b (λx hx=>ha x (mQ _ hx)) (λx hx=>hb x (mQ _ hx)) h2]
theorem mq{a b:Int}(ha:0<=a)(hb:0<=b)(h:bA a=bA b):a=b:=by
 have h1:=(Df a.toNat).2.2.1;have h2:=(Df b.toNat).2.2.1;unfold bA at h;rw[h] at h1;omega
theorem mr(a:Int):47∉bA a:=λhm=>by
 have h1:=(Df a.toNat).1
 have:=List.all_eq_true.1 h1 47 hm
 revert this;decide
structure Plain47(s:Signed):Prop where
 name:47∉s.set.name
 type:0<=s.set.type
 life:0<=s.set.life
 data:∀ d∈s.set.data,47∉d.text/\0<=d.n/\0<=d.m
 sigs:∀ g∈s.sigs,47∉g.zone/\0<=g.key/\0<=g.alg/\0<=g.frm/\0<=g.til/\0<=g.sum
theorem Plain47.fields{s:Signed}(h:Plain47 s):∀ x∈uK s,47∉x:=λx hx=>by
 unfold uK at hx;rcases List.mem_append.1 hx with hx | hx
 ·simp only[List.mem_cons,Qh,or_false] at hx;rcases hx with rfl | rfl | rfl | rfl
  ·exact h.name
  ·exact mr _
  ·exact mr _
  ·exact mr _
 ·rcases List.mem_append.1 hx with hx | hx
  ·obtain⟨d,hd,hx⟩:=List.mem_flatMap.1 hx;simp only[oY,List.mem_cons,Qh,or_false] at hx;rcases hx with rfl | rfl | rfl
   ·exact (h.data d hd).1
   ·exact mr _
   ·exact mr _
  ·obtain⟨g,hg,hx⟩:=List.mem_flatMap.1 hx;simp only[om,List.mem_cons,Qh,or_false] at hx;rcases hx with rfl | rfl | rfl | rfl | rfl | rfl
   ·exact (h.sigs g hg).1
   ·exact mr _
   ·exact mr _
   ·exact mr _
   ·exact mr _
   ·exact mr _
theorem Id:∀ (a b:List Datum) (r q:List (List UInt8)),a.length=b.length->(∀ d∈a,0<=d.n/\0<=d.m)->(∀ d∈b,0<=d.n/\0<=d.m)->a.flatMap oY++r=b.flatMap oY++q->a=b/\r=q
 | [],[],r,q,_,_,_,h=>⟨rfl,by simpa using h⟩
 | [],_::_,_,_,hl,_,_,_=>by simp at hl
 | _::_,[],_,_,hl,_,_,_=>by simp at hl
 | x::a,y::b,r,q,hl,ha,hb,h=>by
   simp only[List.flatMap_cons,oY,List.cons_append,List.nil_append,List.cons.injEq] at h;obtain⟨h1,h2,h3,h4⟩:=h;obtain⟨h5,h6⟩:=Id a b r q (by simpa using hl) (λd hd=>ha d (mQ _ hd)) (λd hd=>hb d (mQ _ hd)) h4;have hx:=ha x (by simp);have hy:=hb y (by simp);have e:x=y:=by
    obtain⟨_,_,_⟩:=x;obtain⟨_,_,_⟩:=y;simp only at h1 h2 h3 hx hy;rw[h1,mq hx.1 hy.1 h2,mq hx.2 hy.2 h3]
   exact⟨by rw[e,h5],h6⟩
theorem LE:∀ (a b:List Sig),(∀ g∈a,0<=g.key/\0<=g.alg/\0<=g.frm/\0<=g.til/\0<=g.sum)->(∀ g∈b,0<=g.key/\0<=g.alg/\0<=g.frm/\0<=g.til/\0<=g.sum)->a.flatMap om=b.flatMap om->a=b
 | [],[],_,_,_=>rfl
 | [],_::_,_,_,h=>by simp[om] at h
 | _::_,[],_,_,h=>by simp[om] at h
 | x::a,y::b,ha,hb,h=>by
   simp only[List.flatMap_cons,om,List.cons_append,List.nil_append,List.cons.injEq] at h;obtain⟨h1,h2,h3,h4,h5,h6,h7⟩:=h;have hx:=ha x (by simp);have hy:=hb y (by simp);have e:x=y:=by
    obtain⟨_,_,_,_,_,_⟩:=x;obtain⟨_,_,_,_,_,_⟩:=y;simp only at h1 h2 h3 h4 h5 h6 hx hy;rw[h1,mq hx.1 hy.1 h2,mq hx.2.1 hy.2.1 h3,mq hx.2.2.1 hy.2.2.1 h4,mq hx.2.2.2.1 hy.2.2.2.1 h5,mq hx.2.2.2.2 hy.2.2.2.2 h6]
   rw[e,LE a b (λg hg=>ha g (mQ _ hg)) (λg hg=>hb g (mQ _ hg)) h7]
theorem Kv{s t:Signed}(hs:Plain47 s)(ht:Plain47 t)(h:gL s=gL t):s=t:=by
 have h:=Ih _ _ hs.fields ht.fields h;unfold uK at h;simp only[List.cons_append,List.nil_append,List.cons.injEq] at h;obtain⟨h1,h2,h3,h4,h5⟩:=h;have e4:=mq (by omega) (by omega) h4;obtain⟨h6,h7⟩:=Id _ _ _ _ (by omega) (λd hd=>(hs.data d hd).2) (λd hd=>(ht.data d hd).2) h5;have h8:=LE _ _ (λg hg=>(hs.sigs g hg).2) (λg hg=>(ht.sigs g hg).2) h7;have e2:=mq hs.type ht.type h2;have e3:=mq hs.life ht.life h3;obtain⟨⟨_,_,_,_⟩,_⟩:=s;obtain⟨⟨_,_,_,_⟩,_⟩:=t;simp only at h1 e2 e3 h6 h8;rw[h1,e2,e3,h6,h8]
theorem QE:∀ (k n:Nat),n<10 ^ (k+1)->(j5 n).length<=k+1:=by
 intro k
 induction k with
 | zero=>intro n h;rw[j5,Qb (by simpa using h)];simp
 | succ k ih=>
  intro n h;rw[j5];split
  ·simp
  ·have:=ih (n / 10) (by rw[Nat.pow_succ] at h;omega)
   simp only[List.length_append,List.length_singleton];omega
end Np
section
open Go.RowKit
def dR(D:Nat->Prop)(w W:World):Prop:=w.heap.size<=W.heap.size/\∀ k,D k->k<w.heap.size/\W.heap[k]?=w.heap[k]?
theorem dR.refl{D:Nat->Prop}{w:World}(h:∀ k,D k->k<w.heap.size):dR D w w:=⟨bQ _,λk e=>⟨h k e,rfl⟩⟩
theorem dR.trans{D:Nat->Prop}{a b c:World}(h:dR D a b)(k:dR D b c):dR D a c:=⟨yQ h.1 k.1,λi e=>⟨(h.2 i e).1,((k.2 i e).2).trans (h.2 i e).2⟩⟩
theorem dR.of_below{D:Nat->Prop}{a b c:World}(h:dR D a b)(k:Below b.heap.size b c):dR D a c:=⟨yQ h.1 k.size,λi e=>⟨(h.2 i e).1,(k.block i (lQ (h.2 i e).1 h.1)).trans (h.2 i e).2⟩⟩
theorem dR.cell{D:Nat->Prop}{w W:World}(h:dR D w W){p:Addr}(hp:D p.block):W.cell? p=w.cell? p:=iQ (h.2 _ hp).2
theorem dR.round{D S:Nat->Prop}{a b c:World}(h:dR D a b)(k:RdStep S b c)(hS:∀ i,S i->¬ D i):dR D a c:=⟨yQ h.1 k.size,λi e=>⟨(h.2 i e).1,(k.keep i (lQ (h.2 i e).1 h.1) (λhs=>hS i hs e)).trans (h.2 i e).2⟩⟩
def yN{α:Type}(P:Program)(gf:FuncId)(mk:Value->Array Value)(encs:α->Array Value)(xs:List α)(Dr:Nat->Prop)(w:World):Prop:=
 ∀ (l:Nat) (J Jx:List α->(Nat->Prop)->World->Prop) (S:Nat->Prop) (W:World),dR Dr w W->
   dE W.heap.size J->dE W.heap.size Jx->
   (∀ pre x S1 W1,pre ++ [x] <+: xs->J pre S1 W1->(∀ k,S1 k->k<W1.heap.size)->W.heap.size<=W1.heap.size->
     YieldAt Fence.wide 0 P l (encs x) W1 (yR J Jx pre x S1 W1))->
   (∀ k,S k->¬ Dr k)->(∀ k,S k->k<W.heap.size)->J [] S W->
   CallsIn Fence.wide 0 P gf (mk (.func (.yield l) #[] #[])) W λe W'=>(∃ v,e = .returned v)/\
    ((∃ S',J xs S' W'/\(∀ k,S' k->S k\/W.heap.size<=k))\/(∃ pre S',pre <+: xs/\Jx pre S' W'/\(∀ k,S' k->S k\/W.heap.size<=k)))
theorem Yx{α:Type}{P:Program}{g:Operand}{ps:Array Tmp}{assign body:Code}{Q:Exit->Act->World->Prop}{a:Act}{w:World}
 {gf:FuncId} {first captured:Array Value} (hg:a.eval g = .func (.func gf) first captured) (eg:∀ args w,(callFunc gf args).run P w = .ok (.enter gf args) w)
 {mk:Value->Array Value} {encs:α->Array Value} {xs:List α} {Dr:Nat->Prop} {w0:World} (f9:∀ y,mk y=first ++ #[y]++captured)
 (hit:yN P gf mk encs xs Dr w0) (bW:dR Dr w0 w) (eS:∀ x,(encs x).size=ps.size)
 (I:List α->(Nat->Prop)->World->Prop) (Ix:Code->List α->(Nat->Prop)->World->Prop) (A:List α->α->(Nat->Prop)->Act->World->Prop)
 (hI:dE w.heap.size I) (fX:∀ c,dE w.heap.size (Ix c)) (hA:∀ pre x S a' W W',A pre x S a' W->ItStep w.heap.size S W W'->A pre x S a' W')
 (S0:Nat->Prop) (lH:∀ k,S0 k->¬ Dr k) (ie:∀ k,S0 k->k<w.heap.size) (h0:I [] S0 w)
 (vd:∀ (l:Nat) (pre:List α) (x:α) (S:Nat->Prop) (W:World),pre ++ [x] <+: xs->I pre S W->(∀ k,S k->k<W.heap.size)->
   assign.wpIn (Fence.wide.inRound l) 0 P (Exit.then (λa₁ W₁=>∃ S',RdStep S W W₁/\(∀ k,S' k->S k\/W.heap.size<=k)/\(∀ k,S' k->k<W₁.heap.size)/\A pre x S' a₁ W₁) (λ_ _ _=>False))
    { tmps:=(ps.zip (encs x)).foldl (λt (p,v)=>t.setIfInBounds p v) a.tmps,defers:=[] } W)
 (vk:∀ (l:Nat) (pre:List α) (x:α) (S:Nat->Prop) (a₁:Act) (W:World),pre ++ [x] <+: xs->A pre x S a₁ W->(∀ k,S k->k<W.heap.size)->
   body.wpIn (Fence.wide.inRound l) 0 P (jY I Ix (pre ++ [x]) S W) a₁ W)
 (kf:∀ (D:Nat) (S:Nat->Prop) (W:World),w.heap.size<=D->¬ S D->(∀ k,S k->S0 k\/w.heap.size<=k)->I xs S W->W.heap[D]?=some (.deferred (some []))->
   Q .normal { a with defers:={ target:=.collected D,args:=#[] } :: a.defers } W)
 (jl:∀ (D:Nat) (c:Code) (pre:List α) (S:Nat->Prop) (W:World),w.heap.size<=D->¬ S D->(∀ k,S k->S0 k\/w.heap.size<=k)->pre <+: xs->Ix c pre S W->W.heap[D]?=some (.deferred (some []))->
   c.wpIn Fence.wide 0 P Q { a with defers:={ target:=.collected D,args:=#[] } :: a.defers } W) :
 (Code.rangeFunc g ps assign body).wpIn Fence.wide 0 P Q a w:=by
 refine wpIn_rangeFunc ?_;intro fn fY;show ∃ (l:Nat) (mark:List Deferred) (w₁:World) (d:Deferred) (w₁':World) (f:FuncId) (args:Array Value) (w₂:World),(Instr.enterLoop fn a.tmps ps assign body none).run P w = .ok (l,mark) w₁/\_;obtain⟨rec,dw⟩:∃ rec:LoopState->Option Code->Loop,rec=λst pe=>{ state:=st,pending:=pe,fn,tmps:=a.tmps,params:=ps,assign,body,defers:=w.heap.size }:=⟨_,rfl⟩;obtain⟨W1,aw⟩:=abY ((w.alloc (.deferred (some []))).alloc (.loop (rec .ready none)));have ag:W1.heap.size=w.heap.size+2:=by rw[<-aw];simp
 have o7:W1.heap[w.heap.size+1]?=some (.loop (rec .ready none)):=by
  rw[<-aw];have:=World.alloc_heap_new (w.alloc (.deferred (some []))) (.loop (rec .ready none));rwa [World.size_alloc] at this
 have uP:W1.heap[w.heap.size]?=some (.deferred (some [])):=by
  rw[<-aw];exact (Below.heap_alloc _ _ _ (by simp)).trans (World.alloc_heap_new w _)
 have lG:I [] S0 W1:=by rw[<-aw];exact hI _ _ _ _ (hI _ _ _ _ h0 (oh _)) (oh _)
 have aq:dR Dr w0 W1:=by
  rw[<-aw];exact bW.of_below (((vQ _ w).alloc (bQ _) _).alloc (by simp) _)
 refine⟨w.heap.size+1,[{ target:=.collected w.heap.size,args:=#[] }],W1,{ target:=.fn (.func gf) captured,args:=first ++ #[.func (.yield (w.heap.size+1)) #[] #[]] },W1,gf,
  first ++ #[.func (.yield (w.heap.size+1)) #[] #[]]++captured,W1,?_,?_,?_,?_,λh=>by simp[Fence.wide] at h,?_⟩
 ·rw[<-aw,dw];exact run_enterLoop_outer _ _ _ _ _
 ·simp only[resolve,hg];simp[go_sem]
 ·intro f' _;trivial
 ·simp[invoke,go_sem,eg]
 ·rw[<-f9];have key:=hit (w.heap.size+1)
   (λpre Si W=>∃ S:Nat->Prop,(∀ k,Si k↔S k\/k=w.heap.size+1)/\(¬ S w.heap.size)/\(¬ S (w.heap.size+1))/\(∀ k,S k->S0 k\/w.heap.size<=k)/\I pre S W/\W.heap[w.heap.size+1]?=some (.loop (rec .ready none))/\W.heap[w.heap.size]?=some (.deferred (some [])))
   (λpre Si W=>∃ (S:Nat->Prop) (c:Code),(∀ k,Si k↔S k\/k=w.heap.size+1)/\(¬ S w.heap.size)/\(¬ S (w.heap.size+1))/\(∀ k,S k->S0 k\/w.heap.size<=k)/\Ix c pre S W/\W.heap[w.heap.size+1]?=some (.loop (rec .done (some c)))/\W.heap[w.heap.size]?=some (.deferred (some [])))
   (λk=>S0 k\/k=w.heap.size+1) W1 aq ?_ ?_ ?_ ?_ ?_ ?_
  ·refine key.mono ?_;rintro e W2 ⟨⟨v,rfl⟩,(⟨S',⟨S,bK,hD,hL,aF,hi,hl,hk⟩,_⟩ | ⟨pre,S',fM,⟨S,c,bK,hD,hL,aF,hi,hl,hk⟩,_⟩)⟩
   ·refine⟨none,_,by have:=run_endLoop (P:=P) hl (by rw[dw];simp);rw[dw] at this;exact this,?_⟩;exact kf _ S _ (bQ _) hD aF (hI _ _ _ _ hi (gK _ (by omega) hL)) ((zQ (by omega)).trans hk)
   ·refine⟨some c,_,by have:=run_endLoop (P:=P) hl (by rw[dw];simp);rw[dw] at this;exact this,?_⟩;exact jl _ c pre S _ (bQ _) hD aF fM ((fX c) _ _ _ _ hi (gK _ (by omega) hL)) ((zQ (by omega)).trans hk)
  ·rintro pre Si A1 B1 ⟨S,bK,hD,hL,aF,hi,hl,hk⟩ ak;have aa:w.heap.size+1<A1.heap.size:=(eQ.1 hl).1;exact⟨S,bK,hD,hL,aF,hI _ _ _ _ hi (ak.weaken (by omega) (λk e=>(bK k).2 (.inl e))),(ak.keep _ aa (.inl (by omega))).trans hl,(ak.keep _ (by omega) (.inl (by omega))).trans hk⟩
  ·rintro pre Si A1 B1 ⟨S,c,bK,hD,hL,aF,hi,hl,hk⟩ ak;have aa:w.heap.size+1<A1.heap.size:=(eQ.1 hl).1;exact⟨S,c,bK,hD,hL,aF,fX c _ _ _ _ hi (ak.weaken (by omega) (λk e=>(bK k).2 (.inl e))),(ak.keep _ aa (.inl (by omega))).trans hl,(ak.keep _ (by omega) (.inl (by omega))).trans hk⟩
  ·
   rintro pre x Si W aJ ⟨S,bK,hD,hL,aF,hi,hl,hk⟩ eh DO;have aa:w.heap.size+1<W.heap.size:=(eQ.1 hl).1;have u6:∀ k,S k->k<W.heap.size:=λk e=>eh k ((bK k).2 (.inl e));have hy:=run_yield (P:=P) (args:=encs x) hl (by rw[dw];exact eS x);rw[dw] at hy;refine⟨fn,_,assign,body,hy,roundIn_of_wpIn fY (wpIn_mono (vd _ pre x S W aJ hi u6) ?_)⟩;intro e a1 Wa hq
   cases e with
   | normal=>
    obtain⟨S1,dL,aN,ww,o4⟩:=hq;have pt:¬ S1 w.heap.size:=λe=>by rcases aN _ e with e | e;exact hD e;omega
    have lO:¬ S1 (w.heap.size+1):=λe=>by rcases aN _ e with e | e;exact hL e;omega
    have pq:Wa.heap[w.heap.size+1]?=some (.loop (rec .ready none)):=(dL.keep _ aa hL).trans hl;have vH:Wa.heap[w.heap.size]?=some (.deferred (some [])):=(dL.keep _ (by omega) hD).trans hk;have pr:w.heap.size+1<Wa.heap.size:=(eQ.1 pq).1;refine⟨_,run_beginRound pq (by rw[dw]),?_⟩;have hb:=vk (w.heap.size+1) pre x S1 a1 (Wa.putObj (w.heap.size+1) (.loop { rec .ready none with state:=.busy })) aJ (hA _ _ _ _ _ _ o4 (gK _ (by omega) lO)) (λk e=>by simpa using ww k e);refine wpIn_mono hb ?_;have fin:∀ (jump:Option Code) (W3:World) (S3:Nat->Prop),RdStep S1 (Wa.putObj (w.heap.size+1) (.loop { rec .ready none with state:=.busy })) W3->(∀ k,S3 k->S1 k\/(Wa.putObj (w.heap.size+1) (.loop { rec .ready none with state:=.busy })).heap.size<=k)->(∀ k,S3 k->k<W3.heap.size)->
     (Instr.endRound (w.heap.size+1) jump).run P W3 = .ok (.bool jump.isNone) (W3.putObj (w.heap.size+1) (.loop (rec (if jump.isNone then .ready else .done) jump)))/\
     (W3.putObj (w.heap.size+1) (.loop (rec (if jump.isNone then .ready else .done) jump))).heap[w.heap.size+1]?=some (.loop (rec (if jump.isNone then .ready else .done) jump))/\
     (W3.putObj (w.heap.size+1) (.loop (rec (if jump.isNone then .ready else .done) jump))).heap[w.heap.size]?=some (.deferred (some []))/\
     ¬ S3 w.heap.size/\¬ S3 (w.heap.size+1)/\(∀ k,S3 k->S k\/W.heap.size<=k)/\
     RdStep Si W (W3.putObj (w.heap.size+1) (.loop (rec (if jump.isNone then .ready else .done) jump))):=λjump W3 S3 bE bM bF=>by
     have fZ:(Wa.putObj (w.heap.size+1) (.loop { rec .ready none with state:=.busy })).heap[w.heap.size+1]?=some (.loop { rec .ready none with state:=.busy }):=World.putObj_heap_same pr;have fi:(Wa.putObj (w.heap.size+1) (.loop { rec .ready none with state:=.busy })).heap[w.heap.size]?=some (.deferred (some [])):=(zQ (by omega)).trans vH;have gE:=(bE.keep _ (by simpa using pr) lO).trans fZ;have iO:=(bE.keep _ (by simp;omega) pt).trans fi;have cG:=(eQ.1 gE).1
     have:=run_endRound (P:=P) jump gE
     rw[dw] at this |-;have td:=bE.size;have q9:=dL.size;simp only[World.putObj_size] at td bM;refine⟨this,World.putObj_heap_same cG,(zQ (by omega)).trans iO,λe=>?_,λe=>?_,λk e=>?_,?_⟩
     ·rcases bM _ e with e | e;exact pt e;omega
     ·rcases bM _ e with e | e;exact lO e;omega
     ·rcases bM _ e with e | e
      ·exact aN _ e
      ·right;omega
     ·refine⟨bE.os.trans dL.os,bE.tape.trans dL.tape,bE.output.trans dL.output,by simp;omega,λk hk' pu=>?_⟩;have kP:k≠w.heap.size+1:=λe=>pu ((bK k).2 (.inr e));have pw:¬ S k:=λe=>pu ((bK k).2 (.inl e));have vP:¬ S1 k:=λe=>by rcases aN _ e with e | e;exact pw e;omega
      exact (zQ kP).trans ((bE.keep k (by simp;omega) vP).trans ((zQ kP).trans (dL.keep k hk' pw)))
    have fin2:∀ (S3:Nat->Prop) (W3:World) (o:Obj),(∀ k,S3 k->k<W3.heap.size)->W.heap.size<=W3.heap.size->(∀ k,S3 k->S k\/W.heap.size<=k)->
     (∀ k,(S3 k\/k=w.heap.size+1)->Si k\/W.heap.size<=k)/\(∀ k,(S3 k\/k=w.heap.size+1)->k<(W3.putObj (w.heap.size+1) o).heap.size):=λS3 W3 o h1 h2 h3=>
     ⟨λk e=>by rcases e with e | e;exact (h3 k e).imp (λe'=>(bK k).2 (.inl e')) id;exact .inl ((bK k).2 (.inr e)),λk e=>by
      simp only[World.putObj_size];rcases e with e | e
      ·exact h1 k e
      ·omega⟩
    have sub3:∀ (S3:Nat->Prop),(∀ k,S3 k->S k\/W.heap.size<=k)->∀ k,S3 k->S0 k\/w.heap.size<=k:=λS3 h k e=>by
     rcases h k e with e | e
     ·exact aF k e
     ·right;omega
    rintro e a3 W3 hp
    cases e with
    | normal=>
     obtain⟨S3,bE,bM,bF,ij⟩:=hp;obtain⟨hr,gW,gV,gF,el,cw,an⟩:=fin none W3 S3 bE bM bF;have ag:W.heap.size<=W3.heap.size:=by simpa using an.size
     refine⟨_,_,hr,λk=>S3 k\/k=w.heap.size+1,an,(fin2 S3 W3 (.deferred none) bF ag cw).1,(fin2 S3 W3 _ bF ag cw).2,.inl ⟨rfl,S3,λ_=>Iff.rfl,gF,el,sub3 S3 cw,hI _ _ _ _ ij (gK _ (by omega) el),gW,gV⟩⟩
    | ret=>
     obtain⟨S3,bE,bM,bF,ij⟩:=hp;obtain⟨hr,gW,gV,gF,el,cw,an⟩:=fin (some .ret) W3 S3 bE bM bF;have ag:W.heap.size<=W3.heap.size:=by simpa using an.size
     refine⟨_,_,hr,λk=>S3 k\/k=w.heap.size+1,an,(fin2 S3 W3 (.deferred none) bF ag cw).1,(fin2 S3 W3 _ bF ag cw).2,.inr ⟨rfl,S3,.ret,λ_=>Iff.rfl,gF,el,sub3 S3 cw,fX _ _ _ _ _ ij (gK _ (by omega) el),gW,gV⟩⟩
    | exit id=>
     obtain⟨S3,bE,bM,bF,ij⟩:=hp;obtain⟨hr,gW,gV,gF,el,cw,an⟩:=fin (some (.exit id)) W3 S3 bE bM bF;have ag:W.heap.size<=W3.heap.size:=by simpa using an.size
     refine⟨_,_,hr,λk=>S3 k\/k=w.heap.size+1,an,(fin2 S3 W3 (.deferred none) bF ag cw).1,(fin2 S3 W3 _ bF ag cw).2,.inr ⟨rfl,S3,.exit id,λ_=>Iff.rfl,gF,el,sub3 S3 cw,fX _ _ _ _ _ ij (gK _ (by omega) el),gW,gV⟩⟩
    | goto t=>exact hp.elim
    | panic ch=>exact hp.elim
    | outgrown=>exact hp.elim
   | ret=>exact hq.elim
   | exit id=>exact hq.elim
   | goto t=>exact hq.elim
   | panic ch=>exact hq.elim
   | outgrown=>exact hq.elim
  ·rintro k (e | rfl)
   ·exact lH k e
   ·exact λh=>by have h1:=(bW.2 _ h).1;have h2:=bW.1;omega
  ·rintro k (e | rfl)
   ·have:=ie k e;omega
   ·omega
  ·exact⟨S0,λ_=>Iff.rfl,λe=>by have:=ie _ e;omega,λe=>by have:=ie _ e;omega,λ_ e=>.inl e,lG,o7,uP⟩
theorem Mi{α:Type}{P:Program}{g:Operand}{ps:Array Tmp}{assign body:Code}{Q:Exit->Act->World->Prop}{a:Act}{w:World}
 {gf:FuncId} {first captured:Array Value} (hg:a.eval g = .func (.func gf) first captured) (eg:∀ args w,(callFunc gf args).run P w = .ok (.enter gf args) w)
 {mk:Value->Array Value} {encs:α->Array Value} {xs:List α} {Dr:Nat->Prop} {w0:World} (f9:∀ y,mk y=first ++ #[y]++captured)
 (hit:yN P gf mk encs xs Dr w0) (bW:dR Dr w0 w) (eS:∀ x,(encs x).size=ps.size)
 (I:List α->(Nat->Prop)->World->Prop) (Ix:Code->List α->(Nat->Prop)->World->Prop)
 (hI:dE w.heap.size I) (fX:∀ c,dE w.heap.size (Ix c))
 (S0:Nat->Prop) (lH:∀ k,S0 k->¬ Dr k) (ie:∀ k,S0 k->k<w.heap.size) (h0:I [] S0 w)
 (vZ:∀ (l0:Nat) (pre:List α) (x:α) (S:Nat->Prop) (W:World),pre ++ [x] <+: xs->I pre S W->(∀ k,S k->k<W.heap.size)->
   assign.wpIn (Fence.wide.inRound l0) 0 P (Exit.then (λa₁ W₁=>∃ S',RdStep S W W₁/\(∀ k,S' k->S k\/W.heap.size<=k)/\(∀ k,S' k->k<W₁.heap.size)/\
    ∀ l W₂,ItStep w.heap.size S' W₁ W₂->body.wpIn (Fence.wide.inRound l) 0 P (jY I Ix (pre ++ [x]) S' W₂) a₁ W₂) (λ_ _ _=>False))
    { tmps:=(ps.zip (encs x)).foldl (λt (p,v)=>t.setIfInBounds p v) a.tmps,defers:=[] } W)
 (kf:∀ (D:Nat) (S:Nat->Prop) (W:World),w.heap.size<=D->¬ S D->(∀ k,S k->S0 k\/w.heap.size<=k)->I xs S W->W.heap[D]?=some (.deferred (some []))->
   Q .normal { a with defers:={ target:=.collected D,args:=#[] } :: a.defers } W)
 (jl:∀ (D:Nat) (c:Code) (pre:List α) (S:Nat->Prop) (W:World),w.heap.size<=D->¬ S D->(∀ k,S k->S0 k\/w.heap.size<=k)->pre <+: xs->Ix c pre S W->W.heap[D]?=some (.deferred (some []))->
   c.wpIn Fence.wide 0 P Q { a with defers:={ target:=.collected D,args:=#[] } :: a.defers } W) :
 (Code.rangeFunc g ps assign body).wpIn Fence.wide 0 P Q a w:=
 Yx hg eg f9 hit bW eS I Ix (λpre x S a₁ W=>∀ l W₂,ItStep w.heap.size S W W₂->body.wpIn (Fence.wide.inRound l) 0 P (jY I Ix (pre ++ [x]) S W₂) a₁ W₂)
  hI fX (λ_ _ _ _ _ _ h hs l W₂ h2=>h l W₂ (hs.trans h2)) S0 lH ie h0 vZ (λl _ _ _ _ W _ h _=>h l W (ItStep.refl _ _ _)) kf jl
end
section
open Go.RowKit
variable {α:Type}
def Hb(R:agJ α)(B:Nat)(w:World)(f:FuncId)(cap:Array Value)(p:α->Bool)(xs:List α):Prop:=
 ∀ (W:World) (x:α) (e0 e1 e2 e3 e4 e5:Value),x∈xs->Below B w W->B<=W.heap.size->R W B [e0,e1,e2,e3,e4,e5] x->Calls prog f (#[.agg #[e0,e1,e2,e3,e4,e5]]++cap) W λe w'=>e = .returned (.bool (p x))/\Below W.heap.size W w'
theorem Ui{R:agJ α}(hK:cj R)(f:FuncId)(eg:∀ args w,(callFunc f args).run prog w = .ok (.enter f args) w)(cap:Array Value)(p:α->Bool)(v:Value)(xs:List α)(w:World)(B:Nat)(hB:B<=w.heap.size)(h:SlR R 6 w B v xs)
 (hp:Hb R B w f cap p xs) :
 Calls prog 232 #[v,.func (.func f) #[] cap] w (agQ w.heap.size w (.int .i64 (jC p xs))):=by
 have H:=jq h;have HP:=jq hp;obtain⟨A,c,rfl,aT,cu,ej⟩:=h;clear ej hp;go_enter func232,ntmps232;go_wp2_with fail;go_loopw [8] (λi wr=>∃ k:Nat,k<=xs.length/\i = .int .i64 k/\Below w.heap.size w wr/\Hid (∀ x∈xs.take k,p x=false)) (λi _=>xs.length - (intOf i).toNat)
 case atStart=>exact⟨0,jQ _,rfl,vQ _ _,jq (by simp)⟩
 case round=>
  obtain⟨k,hk,rfl,hb,HA⟩:=hrel;by_cases aa:k<xs.length
  ·have du:=hb.mono hB;obtain⟨A',c',hA',_,_,aL⟩:=H.out.keep hK du
   cases hA'
   obtain⟨b,o,e,rfl,bC,hlen,hce,hR⟩:=aL k _ (aQ aa)
   match e,hlen with
   | [e0,e1,e2,e3,e4,e5],_=>
   have h0:wr.cell? ⟨b,o+k * 6,none⟩=some e0:=hce 0 _ rfl;have h1:wr.cell? ⟨b,o+k * 6+1,none⟩=some e1:=hce 1 _ rfl;have h2:wr.cell? ⟨b,o+k * 6+2,none⟩=some e2:=hce 2 _ rfl;have h3:wr.cell? ⟨b,o+k * 6+3,none⟩=some e3:=hce 3 _ rfl;have h4:wr.cell? ⟨b,o+k * 6+4,none⟩=some e4:=hce 4 _ rfl;have h5:wr.cell? ⟨b,o+k * 6+5,none⟩=some e5:=hce 5 _ rfl;have jG:=HP.out wr xs[k] e0 e1 e2 e3 e4 e5 (List.getElem_mem aa) du (by have:=hb.size;omega) hR;have HC:=jq jG;have dN:=jq hb;clear aL hce hR jG du hb;go_wp2_with (fail);refine HC.out.mono ?_;rintro e w2 ⟨rfl,ab⟩;have ai:=jq ab;clear ab;by_cases aJ:p xs[k]=true
   ·have HX:=jq aJ;go_wp2_with (fail);go_ret;exact⟨lj (Ij p xs k aa HA.out HX.out).symm,dN.out.trans (ai.out.mono dN.out.size)⟩
   ·have AA:p xs[k]=false:=by simpa using aJ
    have HX:=jq AA;clear aJ;go_wp2_with (fail);go_roundw
    case rel=>
     refine⟨k+1,by omega,by go_num,dN.out.trans (ai.out.mono dN.out.size),jq ?_⟩;rw[fQ aa];intro x hx;rcases List.mem_append.1 hx with h | h
     ·exact HA.out x h
     ·simp at h;subst h;exact HX.out
    case measure=>simp[intOf] <;> omega
  ·go_wp2_with fail;go_ret;exact⟨lj (Il p xs (by have:=HA.out;rwa [kQ (by omega)] at this)).symm,hb⟩
theorem Ql{R:agJ α}(hK:cj R)(f:FuncId)(eg:∀ args w,(callFunc f args).run prog w = .ok (.enter f args) w)(cap:Array Value)(p:α->Bool)(v:Value)(xs:List α)(w:World)(B:Nat)(hB:B<=w.heap.size)(h:SlR R 6 w B v xs)
 (hp:Hb R B w f cap p xs) :
 Calls prog 153 #[v,.func (.func f) #[] cap] w (agQ w.heap.size w (.bool (xs.any p))):=by
 have H:=jq h;have HP:=jq hp;have HE:=jq eg;clear h hp eg;go_enter func153,ntmps153;go_wp2_with (go_at_call 232;refine (Ui hK f HE.out cap p v xs w B hB H.out HP.out).mono ?_;rintro e w' ⟨rfl,hb⟩);go_ret;exact⟨aj (Ik p xs),hb⟩
end
section
open Go.RowKit Go.Shelf
theorem jy(v l m:Int)(w:World) :
 Calls prog 79 #[.agg #[.int .i64 v,.int .i64 l,.int .i64 m]] w (agQ w.heap.size w (.bool (decide (l<=v)&&decide (v<=m)))):=by
 by_cases h1:l<=v
 all_goals
  go_enter func79,ntmps79;go_wp2;go_ret;exact⟨aj (by simp;omega),(vQ _ _).alloc (bQ _) _⟩
theorem VU(b1 b2:Nat)(f t:Int)(w:World)(h1:w.cell? ⟨b1,0,none⟩=some (.int .i64 f))(h2:w.cell? ⟨b2,0,none⟩=some (.int .i64 t))(aq:b1<w.heap.size)(ab:b2<w.heap.size)(e0 e1 e2 e5:Value)(x y:Int) :
 Calls prog 154 #[.agg #[e0,e1,e2,.int .i64 x,.int .i64 y,e5],.pointer (some ⟨b1,0,none⟩),.pointer (some ⟨b2,0,none⟩)] w (agQ w.heap.size w (.bool ((x != f)||(y != t)))):=by
 go_enter func154,ntmps154;go_wp2
 all_goals
  go_ret;go_light;refine⟨aj ?_,(vQ _ _).alloc (bQ _) _⟩;simp_all
theorem VY(s:ByteArray)(hs:s.size<=140737488355328)(ty life:Int)(v u:Value)(ds:List Np.Datum)(gs:List Np.Sig)(w:World)(hR:dS w w.heap.size)(hd:SlR bI 3 w w.heap.size v ds)(hg:SlR cr 6 w w.heap.size u gs) :
 Calls prog 80 #[.agg #[.string s,.int .i64 ty,.int .i64 life,v,u]] w
  λe w'=>e = .returned (.bool (Np.plain ⟨⟨s.data.toList,ty,life,ds⟩,gs⟩))/\Below w.heap.size w w':=by
 have HR:=jq hR;have HD:=jq hd;have HG:=jq hg;obtain⟨A,c,rfl,aT,cu,ej⟩:=hd;obtain⟨A2,c2,rfl,dZ,fZ,fg⟩:=hg;clear hR ej fg;go_enter func80,ntmps80;go_wp2_with fail;refine (Bk s hs ty life _ ds _ ?_ ?_).mono ?_
 ·exact (HR.out.keep ((vQ _ w).alloc (bQ _) _)).more (by simp)
 ·exact (HD.out.keep bq ((vQ _ w).alloc (bQ _) _)).more bD (by simp)
 rintro e w1 ⟨rfl,hb⟩;have bW:Below w.heap.size w w1:=((vQ _ w).alloc (bQ _) _).trans (hb.mono (by simp));have cP:w.heap.size<w1.heap.size:=by have:=hb.size;simp at this;omega
 have c4:w1.cell? ⟨w.heap.size,4,none⟩=some (.slice A2 gs.length c2):=by rw[hb.cell (by simp)];go_simp
 clear hb;by_cases hne:gs = []
 ·subst hne;go_wp2_with fail
  all_goals
   go_ret;go_light;refine⟨aj ?_,bW⟩;simp_all [Np.plain,Np.jM]
 ·obtain⟨g,gr,rfl⟩:∃ g gr,gs=g::gr:=List.exists_cons_of_ne_nil hne;obtain⟨A',c',hA',_,_,aL⟩:=HG.out.keep cC bW
  cases hA'
  obtain⟨b,o,e,rfl,du,_,hce,zs,jp,Ub,rfl⟩:=aL 0 g rfl;have e3:w1.cell? ⟨b,o+3,none⟩=some (.int .i64 g.frm):=by have:=hce 3 _ rfl;simpa using this
  have e4:w1.cell? ⟨b,o+4,none⟩=some (.int .i64 g.til):=by have:=hce 4 _ rfl;simpa using this
  have bC:b<w1.heap.size:=by omega
  clear hce aL hne jp;go_wp2_with fail
  ·go_ret;go_light;refine⟨aj ?_,bW⟩;simp_all [Np.plain]
  ·go_ret;go_light;refine⟨aj ?_,bW⟩;have h6:¬ gr.length+1<=6:=by omega
   simp[Np.plain,h6]
  ·have R4:¬ b=w1.heap.size:=by omega
   have ZF:¬ w.heap.size=w1.heap.size:=by omega
   have ZG:¬ b=w1.heap.size+1:=by omega
   have ZH:¬ w.heap.size=w1.heap.size+1:=by omega
   go_region
   all_goals
    go_wp2_with fail
    ·go_ret;go_light;refine⟨aj ?_,Below.drew ((bW.alloc (by omega) _).alloc (by simp;omega) _)⟩;simp_all [Np.plain,Np.jM]
    ·go_ret;go_light;refine⟨aj ?_,Below.drew ((bW.alloc (by omega) _).alloc (by simp;omega) _)⟩;simp_all [Np.plain,Np.jM]
    ·go_ret;go_light;refine⟨aj ?_,Below.drew ((bW.alloc (by omega) _).alloc (by simp;omega) _)⟩;simp_all [Np.plain,Np.jM]
    ·have h1:g.til<=20000000:=by assumption
     have h2:0<=g.frm:=by assumption
     have h3:g.frm<=g.til:=by assumption
     have h4:Np.bO ⟨s.data.toList,ty,life,ds⟩=true:=by assumption
     have h5:(gr.length:Int)+1<=6:=by assumption
     have ph:Np.plain ⟨⟨s.data.toList,ty,life,ds⟩,g::gr⟩=!((g::gr).any (Np.rA g)):=by
      go_light;have h6:gr.length+1<=6:=by omega
      have a1:¬ g.frm<0:=by omega
      have a2:¬ g.til<g.frm:=by omega
      have a3:¬ 20000000<g.til:=by omega
      simp[Np.plain,Np.jM,h4,h6,a1,a2,a3]
     have HF:=jq ph;clear ph;refine (Ql (R:=cr) cC 154 (enters_of func154 (by kernel_rfl) rfl) _ (Np.rA g) _ (g::gr) _ _ (bQ _) ?_ ?_).mono ?_
     ·exact (HG.out.keep cC (Below.drew ((bW.alloc (by omega) _).alloc (by simp;omega) _))).more cZ (by simp;omega)
     ·intro W x e0 e1 e2 e3 e4 e5 hx hW Dw zF;obtain⟨zz,_,_,Jn⟩:=zF;simp only[List.cons.injEq,and_true] at Jn;obtain⟨rfl,rfl,rfl,rfl,rfl,rfl⟩:=Jn;refine (VU _ _ g.frm g.til W ?_ ?_ ?_ ?_ _ _ _ _ _ _)
      ·rw[hW.cell (by simp <;> omega)];go_simp
      ·rw[hW.cell (by simp <;> omega)];go_simp
      ·simp at Dw;omega
      ·simp at Dw;omega
     ·rintro e w2 ⟨rfl,ab⟩;go_wp2_with fail;go_ret;exact⟨aj (by rw[HF.out];simp),(Below.drew ((bW.alloc (by omega) _).alloc (by simp;omega) _)).trans (ab.mono (by simp;omega))⟩
def xT{α:Type}(R:agJ α)(sz:Nat)(w:World)(l:List α)(err:Int)(e:Ending)(w':World):Prop:=
 ∃ x,e = .returned (.tuple #[x,.int .i64 err])/\SlR R sz w' w'.heap.size x l/\Below w.heap.size w w'
theorem LK{α:Type}{R:agJ α}{sz:Nat}(w:World)(B:Nat):SlR R sz w B (.slice none 0 0) []:=⟨none,0,rfl,by simp,by simp,λi x h=>by simp at h⟩
theorem Xu{s:Np.Signed}{drift stop:Int}(he:Np.fR s drift stop=0)(h:Np.l7 s drift stop<=Np.l6 s drift):Np.ew s drift stop = []:=by
 unfold Np.ew;rw[Qb he,Qb h]
theorem LX{s:Np.Signed}{drift stop a b:Int}(he:Np.fR s drift stop=0)(h:a<b)(ha:Np.l6 s drift=a)(hb:Np.l7 s drift stop=b):Np.ew s drift stop = [⟨a,b⟩]:=by
 unfold Np.ew;rw[Qb he,ha,hb,Qc (by omega)]
theorem lF{α:Type}{R:agJ α}{sz:Nat}{w w':World}{l:List α}{err n:Int}(hb:Below w.heap.size w w')(hl:l = [])(he:err=n):xT R sz w l err (.returned (.tuple #[.slice none 0 0,.int .i64 n])) w':=
 ⟨_,by rw[he],by rw[hl];exact LK _ _,hb⟩
theorem IA{w w1:World}{l:List Np.Span}{err:Int}{a b:Int}{t:TypeId}(hb:Below w.heap.size w w1)(hl:l = [⟨a,b⟩])(he:err=0) :
 xT cm 2 w l err (.returned (.tuple #[.slice (some ⟨w1.heap.size,0,none⟩) 1 1,.int .i64 0])) (w1.alloc (.cells #[.int .i64 a,.int .i64 b] t)):=by
 refine⟨_,by rw[he],?_,hb.alloc hb.size _⟩;subst hl;refine⟨_,1,rfl,by simp,by simp,λi x hx=>?_⟩
 match i,hx with
 | 0,hx=>
  simp at hx;subst hx;refine⟨w1.heap.size,0,[.int .i64 a,.int .i64 b],rfl,by simp,rfl,λj v hj=>?_,rfl⟩
  have:=World.cell?_alloc_new w1 #[.int .i64 a,.int .i64 b] t j
  simp only[Nat.zero_add,Nat.zero_mul];rw[this,<-hj];simp
 | i+1,hx=>simp at hx
theorem By(s:ByteArray)(hs:s.size<=140737488355328)(ty life:Int)(v u:Value)(ds:List Np.Datum)(gs:List Np.Sig)(drift stop:Int)(w:World)(hR:dS w w.heap.size)(hd:SlR bI 3 w w.heap.size v ds)(hg:SlR cr 6 w w.heap.size u gs) :
 Calls prog 37 #[.agg #[.string s,.int .i64 ty,.int .i64 life,v,u],.int .i64 drift,.int .i64 stop] w
  (xT cm 2 w (Np.ew ⟨⟨s.data.toList,ty,life,ds⟩,gs⟩ drift stop) (Np.fR ⟨⟨s.data.toList,ty,life,ds⟩,gs⟩ drift stop)):=by
 have HR:=jq hR;have HD:=jq hd;have HG:=jq hg;obtain⟨A,c,rfl,aT,cu,ej⟩:=hd;obtain⟨A2,c2,rfl,dZ,fZ,fg⟩:=hg;clear hR ej fg;have i0:∀ w,(Instr.index 143 (.agg #[.int .i64 drift,.int .i64 0,.int .i64 1000,.int .i64 stop,.int .i64 1,.int .i64 20000000]) (.int .i64 0)).run prog w = .ok (.agg #[.int .i64 drift,.int .i64 0,.int .i64 1000]) w:=λ_=>by kernel_rfl
 have i1:∀ w,(Instr.index 143 (.agg #[.int .i64 drift,.int .i64 0,.int .i64 1000,.int .i64 stop,.int .i64 1,.int .i64 20000000]) (.int .i64 1)).run prog w = .ok (.agg #[.int .i64 stop,.int .i64 1,.int .i64 20000000]) w:=λ_=>by kernel_rfl
 go_enter func37,ntmps37;go_wp2_with fail;have c0:((w.alloc (.cells #[.string s,.int .i64 ty,.int .i64 life,.slice A ds.length c,.slice A2 gs.length c2] 42)).alloc (.cells #[.int .i64 drift,.int .i64 0,.int .i64 1000,.int .i64 stop,.int .i64 1,.int .i64 20000000] 143)).cell? ⟨w.heap.size,0,none⟩=some (.string s):=by go_simp
 have c1:((w.alloc (.cells #[.string s,.int .i64 ty,.int .i64 life,.slice A ds.length c,.slice A2 gs.length c2] 42)).alloc (.cells #[.int .i64 drift,.int .i64 0,.int .i64 1000,.int .i64 stop,.int .i64 1,.int .i64 20000000] 143)).cell? ⟨w.heap.size,1,none⟩=some (.int .i64 ty):=by go_simp
 have c2':((w.alloc (.cells #[.string s,.int .i64 ty,.int .i64 life,.slice A ds.length c,.slice A2 gs.length c2] 42)).alloc (.cells #[.int .i64 drift,.int .i64 0,.int .i64 1000,.int .i64 stop,.int .i64 1,.int .i64 20000000] 143)).cell? ⟨w.heap.size,2,none⟩=some (.int .i64 life):=by go_simp
 have c3:((w.alloc (.cells #[.string s,.int .i64 ty,.int .i64 life,.slice A ds.length c,.slice A2 gs.length c2] 42)).alloc (.cells #[.int .i64 drift,.int .i64 0,.int .i64 1000,.int .i64 stop,.int .i64 1,.int .i64 20000000] 143)).cell? ⟨w.heap.size,3,none⟩=some (.slice A ds.length c):=by go_simp
 have c4:((w.alloc (.cells #[.string s,.int .i64 ty,.int .i64 life,.slice A ds.length c,.slice A2 gs.length c2] 42)).alloc (.cells #[.int .i64 drift,.int .i64 0,.int .i64 1000,.int .i64 stop,.int .i64 1,.int .i64 20000000] 143)).cell? ⟨w.heap.size,4,none⟩=some (.slice A2 gs.length c2):=by go_simp
 have qH:Below w.heap.size w ((w.alloc (.cells #[.string s,.int .i64 ty,.int .i64 life,.slice A ds.length c,.slice A2 gs.length c2] 42)).alloc (.cells #[.int .i64 drift,.int .i64 0,.int .i64 1000,.int .i64 stop,.int .i64 1,.int .i64 20000000] 143)):=((vQ _ w).alloc (bQ _) _).alloc (by simp) _;have pD:w.heap.size<((w.alloc (.cells #[.string s,.int .i64 ty,.int .i64 life,.slice A ds.length c,.slice A2 gs.length c2] 42)).alloc (.cells #[.int .i64 drift,.int .i64 0,.int .i64 1000,.int .i64 stop,.int .i64 1,.int .i64 20000000] 143)).heap.size:=by simp;omega
 generalize (w.alloc (.cells #[.string s,.int .i64 ty,.int .i64 life,.slice A ds.length c,.slice A2 gs.length c2] 42)).alloc (.cells #[.int .i64 drift,.int .i64 0,.int .i64 1000,.int .i64 stop,.int .i64 1,.int .i64 20000000] 143)=W0 at c0 c1 c2' c3 c4 qH pD |-;have HW:=jq qH;clear qH;go_loopw [19] (λi wr=>∃ k:Nat,k<=2/\i = .int .i64 k/\Below W0.heap.size W0 wr/\(1<=k->0<=drift/\drift<=1000)/\(2<=k->1<=stop/\stop<=20000000)) (λi _=>2 - (intOf i).toNat)
 case atStart=>exact⟨0,by omega,rfl,vQ _ _,by omega,by omega⟩
 case round=>
  obtain⟨k,hk,rfl,cg,h1,h2⟩:=hrel;have HB:=jq cg;have jk:=cg.size;have H1:=jq h1;have H2:=jq h2;clear h1 h2 cg;rcases (by omega:k=0\/k=1\/k=2) with rfl | rfl | rfl
  ·by_cases hd:0<=drift/\drift<=1000
   ·go_wp2_with (go_at_call 79;refine (jy _ _ _ _).mono ?_;rintro e w' ⟨rfl,hb⟩);go_roundw
    case rel=>exact⟨1,by omega,rfl,HB.out.trans (((vQ _ wr).alloc (bQ _) _).trans (hb.mono (by simp)) |>.mono jk),λ_=>hd,by omega⟩
    case measure=>simp[intOf] <;> omega
   ·have hd':(decide (0<=drift)&&decide (drift<=1000))=false:=by simp;omega
    go_wp2_with (go_at_call 79;refine (jy _ _ _ _).mono ?_;rintro e w' ⟨rfl,hb⟩)
    all_goals first
     | (go_ret2
        have he:Np.fR ⟨⟨s.data.toList,ty,life,ds⟩,gs⟩ drift stop=1:=by rw[Np.fR,Qc (by omega)]
        exact lF (HW.out.trans ((HB.out.trans (((vQ _ wr).alloc (bQ _) _).trans (hb.mono (by simp)) |>.mono jk)).acJ)) (by rw[Np.ew,he];rfl) he)
     | (exfalso;omega)
  ·by_cases hd:1<=stop/\stop<=20000000
   ·go_wp2_with (go_at_call 79;refine (jy _ _ _ _).mono ?_;rintro e w' ⟨rfl,hb⟩);go_roundw
    case rel=>exact⟨2,by omega,rfl,HB.out.trans (((vQ _ wr).alloc (bQ _) _).trans (hb.mono (by simp)) |>.mono jk),λ_=>H1.out (by omega),λ_=>hd⟩
    case measure=>simp[intOf] <;> omega
   ·have hd':(decide (1<=stop)&&decide (stop<=20000000))=false:=by simp;omega
    go_wp2_with (go_at_call 79;refine (jy _ _ _ _).mono ?_;rintro e w' ⟨rfl,hb⟩)
    all_goals first
     | (go_ret2
        have he:Np.fR ⟨⟨s.data.toList,ty,life,ds⟩,gs⟩ drift stop=1:=by rw[Np.fR,Qc (by omega)]
        exact lF (HW.out.trans ((HB.out.trans (((vQ _ wr).alloc (bQ _) _).trans (hb.mono (by simp)) |>.mono jk)).acJ)) (by rw[Np.ew,he];rfl) he)
     | (exfalso;omega)
  ·obtain⟨ke,qK⟩:=H1.out (by omega);obtain⟨aN,fj⟩:=H2.out (by omega);have d0:wr.cell? ⟨w.heap.size,0,none⟩=some (.string s):=(HB.out.cell pD).trans c0;have d1:wr.cell? ⟨w.heap.size,1,none⟩=some (.int .i64 ty):=(HB.out.cell pD).trans c1;have d2:wr.cell? ⟨w.heap.size,2,none⟩=some (.int .i64 life):=(HB.out.cell pD).trans c2';have d3:wr.cell? ⟨w.heap.size,3,none⟩=some (.slice A ds.length c):=(HB.out.cell pD).trans c3;have d4:wr.cell? ⟨w.heap.size,4,none⟩=some (.slice A2 gs.length c2):=(HB.out.cell pD).trans c4;have vm:Below w.heap.size w wr:=HW.out.trans (HB.out.acJ);clear c0 c1 c2' c3 c4;go_wp2_with fail;refine (VY s hs ty life _ _ ds gs _ ?_ ?_ ?_).mono ?_
   ·exact (HR.out.keep vm).more (by omega)
   ·exact (HD.out.keep bq vm).more bD (by omega)
   ·exact (HG.out.keep cC vm).more cZ (by omega)
   rintro e w1 ⟨rfl,hb⟩;have acY:=hb.size;have Jc:Below w.heap.size w w1:=vm.trans (hb.acJ);have f4:w1.cell? ⟨w.heap.size,4,none⟩=some (.slice A2 gs.length c2):=(hb.cell (by simp;omega)).trans d4;have bg:=jq Jc;clear hb vm d0 d1 d2 d3 d4 Jc;by_cases hp:Np.plain ⟨⟨s.data.toList,ty,life,ds⟩,gs⟩=true
   ·have he:Np.fR ⟨⟨s.data.toList,ty,life,ds⟩,gs⟩ drift stop=0:=by rw[Np.fR,Qb ⟨ke,qK,aN,fj,hp⟩]
    have HE:=jq he;clear he;by_cases hne:gs = []
    ·subst hne;go_wp2_with fail;go_ret2;exact IA bg.out (LX HE.out (by omega) rfl rfl) HE.out
    ·obtain⟨g,gr,rfl⟩:∃ g gr,gs=g::gr:=List.exists_cons_of_ne_nil hne;obtain⟨A',c',hA',_,_,aL⟩:=HG.out.keep cC bg.out
     cases hA'
     obtain⟨b,o,e,rfl,du,_,hce,zs,jp,Ub,rfl⟩:=aL 0 g rfl;have e3:w1.cell? ⟨b,o+3,none⟩=some (.int .i64 g.frm):=by have:=hce 3 _ rfl;simpa using this
     have e4:w1.cell? ⟨b,o+4,none⟩=some (.int .i64 g.til):=by have:=hce 4 _ rfl;simpa using this
     have eS:Np.jM (g::gr)=true:=by
      simp only[Np.plain,Bool.and_eq_true] at hp;exact hp.2
     have fw:0<=g.frm/\g.frm<=g.til/\g.til<=20000000:=by
      simp only[Np.jM,Bool.and_eq_true,Bool.not_eq_true',Bool.or_eq_false_iff,decide_eq_false_iff_not] at eS;omega
     obtain⟨cM,nL,kL⟩:=fw;clear hce aL hne jp eS;have hf:Np.l6 ⟨⟨s.data.toList,ty,life,ds⟩,g::gr⟩ drift=g.frm+drift:=rfl;have ht:Np.l7 ⟨⟨s.data.toList,ty,life,ds⟩,g::gr⟩ drift stop=min stop (g.til - drift+1):=rfl;have HF:=jq hf;have HT:=jq ht;clear hf ht;by_cases hm:g.til - drift+1<stop
     all_goals
      go_wp2_with fail
      ·go_ret2;exact lF bg.out (Xu HE.out (by rw[HT.out,HF.out];omega)) HE.out
      ·go_ret2;exact IA bg.out (LX HE.out (by omega) HF.out (by rw[HT.out];first | done | omega)) HE.out
   ·have hp':Np.plain ⟨⟨s.data.toList,ty,life,ds⟩,gs⟩=false:=by simpa using hp
    have he:Np.fR ⟨⟨s.data.toList,ty,life,ds⟩,gs⟩ drift stop=1:=by rw[Np.fR,Qc (λh=>hp h.2.2.2.2)]
    have HE:=jq he;clear he hp;go_wp2_with fail;go_ret2;exact lF bg.out (by rw[Np.ew,HE.out];rfl) HE.out
end
section
open Go.RowKit Go.Shelf
attribute [local go_sem] Oper.semAt_some
def m9(b k:Int)(j:Nat):List Int:=(List.range j).map λ(i:Nat)=>b+i * k
theorem L7(b k:Int)(j:Nat):m9 b k (j+1)=m9 b k j ++ [b+j * k]:=by simp[m9,List.range_succ]
theorem tJ(b s k:Int)(hk:1<=k)(j:Nat):j<(Np.dl b s k).length↔b+j * k<s:=by
 have cN:0<k:=by omega
 simp only[Np.dl,List.length_map,List.length_range];rw[Int.lt_toNat];have h:=Int.le_ediv_iff_mul_le (a:=(j:Int)+1) (b:=s - b+k - 1) cN;rw[Int.add_mul] at h;constructor
 ·intro aa;have:=h.1 (by omega);omega
 ·intro aa;have:=h.2 (by omega);omega
theorem XP(b s k:Int)(j:Nat)(hj:j<=(Np.dl b s k).length):m9 b k j <+: Np.dl b s k:=by
 unfold Np.dl m9 at *;simp only[List.length_map,List.length_range] at hj;obtain⟨d,hd⟩:∃ d,((s - b+k - 1) / k).toNat=j+d:=⟨((s - b+k - 1) / k).toNat - j,by omega⟩;rw[hd,List.range_add,List.map_append];exact List.prefix_append _ _
theorem XK(b s k:Int)(j:Nat)(hj:j=(Np.dl b s k).length):m9 b k j=Np.dl b s k:=by
 unfold Np.dl m9 at *;simp only[List.length_map,List.length_range] at hj;rw[hj]
def Ps(b s k:Int)(bx:Nat)(J:List Int->(Nat->Prop)->World->Prop)(S:Nat->Prop)(W:World)(v:Value)(wr:World):Prop:=
 ∃ (j:Nat) (S1:Nat->Prop),v = .int .i64 (b+j * k)/\j<=(Np.dl b s k).length/\J (m9 b k j) S1 wr/\(∀ i,S1 i->i<wr.heap.size)/\¬ S1 bx/\(∀ i,S1 i->S i\/W.heap.size<=i)/\
   wr.heap[bx]?=some (.cells #[.int .i64 b,.int .i64 s,.int .i64 k] 149 (0,0))
theorem XM(b s k:Int)(hk:1<=k)(fi:k<=20000000)(hb:0<=b)(hs:s<=10000000)(ab:b<=10000000)(n₀:Nat)(w:World) :
 oP prog 83 (λy=>#[.agg #[.int .i64 b,.int .i64 s,.int .i64 k],y]) (λx:Int=>#[.int .i64 x]) (Np.dl b s k) n₀ w:=by
 intro l J Jx S W hW hJ zy hY hS hS' h0;refine callsIn_of_wp func83 rfl trivial ?_ rfl;simp only[ntmps83,List.size_toArray,List.length_cons,List.length_nil,Nat.reduceAdd,Nat.reduceSub,Array.replicate_succ,Array.replicate_zero,List.push_toArray,List.append_toArray,List.nil_append,List.cons_append];gi_wp2_with fail;gi_loopw [4] (λv wr=>Ps b s k W.heap.size J S W v wr) (λv _=>(s - intOf v).toNat)
 case atStart=>
  refine⟨0,S,by simp,jQ _,hJ _ _ _ _ h0 (oh _),λi e=>by have:=hS' i e;simp;omega,λe=>by have:=hS' _ e;omega,λ_ e=>.inl e,World.alloc_heap_new W _⟩
 case round=>
  obtain⟨j,S1,rfl,hj,jb,cP,kg,aF,dX⟩:=hrel;have AF:W.heap.size<wr.heap.size:=(eQ.1 dX).1;have b0:wr.cell? ⟨W.heap.size,0,none⟩=some (.int .i64 b):=by simp[World.cell?,dX]
  have b1:wr.cell? ⟨W.heap.size,1,none⟩=some (.int .i64 s):=by simp[World.cell?,dX]
  have b2:wr.cell? ⟨W.heap.size,2,none⟩=some (.int .i64 k):=by simp[World.cell?,dX]
  have ju:=jq dX;clear dX;by_cases aa:b+j * k<s
  ·have lN:=(tJ b s k hk j).2 aa;have aJ:m9 b k j ++ [b+j * k] <+: Np.dl b s k:=by rw[<-L7];exact XP b s k (j+1) lN
   obtain⟨fn,tmps,assign,body,hy,hR⟩:=hY (m9 b k j) (b+j * k) S1 wr aJ jb cP (by omega);have HP:=jq aJ;clear aJ lN;have Tb:0<=(j:Int) * k:=Int.mul_nonneg (by omega) (by omega);generalize hq:(j:Int) * k=q at *;have HQ:=jq hq;clear hq;gi_wp2_with fail;refine⟨rfl,hR.mono ?_⟩;rintro e W3 ⟨S3,an,bS,cG,(⟨rfl,eM⟩ | ⟨rfl,eN⟩)⟩
   ·have vn:=(an.keep _ AF kg).trans ju.out;have d0:W3.cell? ⟨W.heap.size,0,none⟩=some (.int .i64 b):=by simp[World.cell?,vn]
    have d1:W3.cell? ⟨W.heap.size,1,none⟩=some (.int .i64 s):=by simp[World.cell?,vn]
    have d2:W3.cell? ⟨W.heap.size,2,none⟩=some (.int .i64 k):=by simp[World.cell?,vn]
    have ay:=jq vn;clear vn;gi_wp2_with fail;go_roundw
    case rel=>
     refine⟨j+1,S3,?_,?_,?_,cG,λe=>?_,λi e=>?_,ay.out⟩
     ·have:((j+1:Nat):Int) * k=q+k:=by rw[<-HQ.out];push_cast;rw[Int.add_mul];omega
      rw[this];congr 1;omega
     ·exact (tJ b s k hk j).2 (by rw[HQ.out];exact aa)
     ·rw[L7,HQ.out];exact eM
     ·rcases bS _ e with e | e
      ·exact kg e
      ·omega
     ·rcases bS _ e with e | e
      ·exact aF _ e
      ·right;omega
    case measure=>simp[intOf] <;> omega
   ·gi_wp2_with fail;refine bodyPost_ret (results_none rfl _ _ _) rfl ?_;refine⟨⟨_,rfl⟩,.inr ⟨_,S3,HP.out,eN,λi e=>?_⟩⟩;rcases bS _ e with e | e
    ·exact aF _ e
    ·right;omega
  ·have Ai:j=(Np.dl b s k).length:=by
    have:=mt (tJ b s k hk j).1 aa
    omega
   have HE:=jq (XK b s k j Ai);clear Ai hj;have Tb:0<=(j:Int) * k:=Int.mul_nonneg (by omega) (by omega);generalize hq:(j:Int) * k=q at *;gi_wp2_with fail;go_end0;exact⟨⟨_,rfl⟩,.inl ⟨S1,by rw[<-HE.out];exact jb,aF⟩⟩
end
end Go.Proofs.YtfnopgdcaanaiaaGreatDoor
