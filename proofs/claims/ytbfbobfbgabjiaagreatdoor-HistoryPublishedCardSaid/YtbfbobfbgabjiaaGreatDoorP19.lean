/- Parts of the proof. No condition. -/
import Derived.Lib.LazyBuf
import Derived.Test.YtbfbobfbgabjiaaGreatDoorP10
import Derived.Test.YtbfbobfbgabjiaaGreatDoorP15
set_option linter.all false
set_option maxRecDepth 100000
set_option maxHeartbeats 8000000
namespace Go.Proofs.YtbfbobfbgabjiaaGreatDoor
open Go.Proofs.Tryz
section
open Go.RowKit
def gb(_:World)(_:Nat)(e:List Value)(x:Np.Host):Prop:=∃ s:ByteArray,s.data.toList=x.name/\s.size<=140737488355328/\e = [.string s,.int .i64 x.addr,.int .i64 x.owner]
theorem fw:dw gb:=λ_ _ _ _ _ h _=>h
theorem kP:dN gb:=λ_ _ _ _ _ h _=>h
theorem rZ{w:World}{B n c:Nat}{A:Option Addr}{xs:List Np.Host}(h:SlR gb 3 w B (.slice A n c) xs){k:Nat}{x:Np.Host}(hx:xs[k]?=some x):∃ (b o:Nat) (s:ByteArray),A=some ⟨b,o,none⟩/\b<B/\s.data.toList=x.name/\s.size<=140737488355328/\w.cell? ⟨b,o+k * 3,none⟩=some (.string s)/\w.cell? ⟨b,o+k * 3+1,none⟩=some (.int .i64 x.addr)/\w.cell? ⟨b,o+k * 3+2,none⟩=some (.int .i64 x.owner):=by
 obtain⟨A',c',hv,hc,_,he⟩:=h;simp only[Value.slice.injEq] at hv;obtain⟨rfl,_,_⟩:=hv;obtain⟨b,o,e,rfl,hb,_,hce,s,h1,h2,rfl⟩:=he k x hx;exact⟨b,o,s,rfl,hb,h1,h2,by have:=hce 0 _ rfl; simpa using this,hce 1 _ rfl,hce 2 _ rfl⟩
theorem Kj{w:World}{B n c:Nat}{A:Option Addr}{xs:List Int}(h:SlR gJ 1 w B (.slice A n c) xs){k:Nat}{x:Int}(hx:xs[k]?=some x):∃ (b o:Nat),A=some ⟨b,o,none⟩/\b<B/\w.cell? ⟨b,o+k,none⟩=some (.int .i64 x):=by
 obtain⟨A',c',hv,hc,_,he⟩:=h;simp only[Value.slice.injEq] at hv;obtain⟨rfl,_,_⟩:=hv;obtain⟨b,o,e,rfl,hb,_,hce,rfl⟩:=he k x hx;exact⟨b,o,rfl,hb,by have:=hce 0 _ rfl; simpa using this⟩
def Np.lR(n:Int):Bool:=decide (1<=n)&&decide (n<=1000000)
theorem K9(n:Int)(w:World) :
 Calls prog 129 #[.int .i64 n] w λe w'=>e = .returned (.bool (Np.lR n))/\w=w':=by
 obtain⟨r,hr⟩:∃ r,Np.lR n=r:=⟨_,rfl⟩;rw[hr];by_cases h1:1<=n
 ·by_cases h2:n<=1000000
  ·have HX:Hid (r=true):=jq (by rw[<-hr]; simp[Np.lR,h1,h2]);clear hr;go_enter func129,ntmps129;go_wp2_with fail;go_ret;exact⟨ae HX.out.symm,rfl⟩
  ·have HX:Hid (r=false):=jq (by rw[<-hr]; simp[Np.lR,h2]);clear hr;go_enter func129,ntmps129;go_wp2_with fail;go_ret;exact⟨ae HX.out.symm,rfl⟩
 ·have HX:Hid (r=false):=jq (by rw[<-hr]; simp[Np.lR,h1]);clear hr;go_enter func129,ntmps129;go_wp2_with fail;go_ret;exact⟨ae HX.out.symm,rfl⟩
theorem MX(a:Int):∀ l:List Np.Host,(((l.map λh=>(h.addr,Value.bool true)).lookup a).getD (.bool false) = .bool (decide (a∈l.map (·.addr))))/\(a∉l.map (·.addr)->(l.map λh=>(h.addr,Value.bool true)).lookup a=none)
 | []=>⟨rfl,λ_=>rfl⟩
 | h::l=>by
   obtain⟨i1,i2⟩:=MX a l;rw[List.map_cons,List.map_cons];by_cases e:a=h.addr
   ·subst e;rw[List.lookup_cons_self];exact⟨by simp,λhn=>absurd (by simp) hn⟩
   ·have hb:(a == h.addr)=false:=by simpa using e
    rw[List.lookup_cons,hb];exact⟨by rw[i1]; simp[e],λhn=>i2 λhm=>hn (mQ _ hm)⟩
theorem aLY(v:Value)(l:List Np.Host)(w:World)(hd:SlR gb 3 w w.heap.size v l) :
 Calls prog 73 #[v] w λe w'=>e = .returned (.bool (Np.yes (Np.VHosts l)))/\Below w.heap.size w w':=by
 obtain⟨r,hr⟩:∃ r,Np.yes (Np.VHosts l)=r:=⟨_,rfl⟩;rw[hr];have HR:=jq hr;have HD:=jq hd;obtain⟨A,c,rfl,aV,bi⟩:=ah hd;clear hr hd;by_cases vJ:l.length<=64
 ·have FY:=jq vJ;have wL:∀ (w:World),(Instr.makeMap 184 none).run prog w = .ok (.map (some w.heap.size)) (w.alloc (.map #[] 0)):=λw=>by
   simp[Instr.makeMap,Result.andThen]
  go_enter func73,ntmps73;go_wp2_with fail;have uX:=jq (m9.made w);have ap:Below w.heap.size w (w.alloc (.map #[] 0)):=(vQ _ w).alloc (bQ _) _;have ay:=jq ap;have bL:w.heap.size<(w.alloc (.map #[] 0)).heap.size:=by simp
  clear ap;generalize w.alloc (.map #[] 0)=w1 at *;go_loopw [12] (λi wr=>∃ k:Nat,k<=l.length/\i = .int .i64 k/\Hid (Below w.heap.size w wr)/\w.heap.size<wr.heap.size/\Hid (m9 w.heap.size ((l.take k).map λh=>(h.addr,Value.bool true)) wr)/\Hid (∀ j x,j<k->l[j]?=some x->Np.HostOk x)/\Hid (((l.take k).map (·.addr)).Nodup)) (λi _=>l.length - (intOf i).toNat)
  case atStart=>exact⟨0,jQ _,rfl,ay,bL,uX,jq (λj x hj=>by omega),jq (by simp)⟩
  case round=>
   obtain⟨k,hk,rfl,HB,dz,HM,HA,Aa⟩:=hrel;by_cases aa:k<l.length
   ·obtain⟨x,ac⟩:∃ x,l[k]?=some x:=⟨_,aQ aa⟩;obtain⟨b,o,sn,rfl,bS,av,cA,f0,f1,f2⟩:=rZ (HD.out.keep fw HB.out) ac;have ht:l.take (k+1)=l.take k ++ [x]:=by
     obtain⟨hl,he⟩:=cQ.1 ac;rw[fQ hl,he]
    have HT:=jq ht;have HN:Hid (Np.HostOk x->∀ j y,j<k+1->l[j]?=some y->Np.HostOk y):=jq (λh j y hj hy=>by
     by_cases e:j=k
     ·subst e; rw[ac] at hy; cases hy; exact h
     ·exact HA.out j y (by omega) hy)
    have HF:Hid (¬ Np.HostOk x->r=false):=jq (λh=>by rw[<-HR.out]; exact Np.aJ λq=>h (q.each x (gQ ac)));have ri:Hid (x.addr∈(l.take k).map (·.addr)->r=false):=jq (λh=>by
     rw[<-HR.out];refine Np.aJ λq=>?_;have h1:=q.addrs;have h2:(l.take (k+1)).map (·.addr) <+: l.map (·.addr):=by rw[List.map_take]; exact List.take_prefix _ _
     have h3:=h1.sublist h2.sublist;rw[ht,List.map_append,List.nodup_append] at h3;exact h3.2.2 x.addr h x.addr (by simp) rfl)
    have aH:=jq av;have cH:Hid (∀ o,Below wr.heap.size wr (wr.alloc o)):=jq (λo=>(vQ _ _).alloc (bQ _) _);obtain⟨w2,aj⟩:∃ w2,wr.alloc (.cells #[.string sn,.int .i64 x.addr,.int .i64 x.owner] 64)=w2:=⟨_,rfl⟩;have ab:Below wr.heap.size wr w2:=by rw[<-aj]; exact cH.out _
    have p0:w2.cell? ⟨wr.heap.size,0,none⟩=some (.string sn):=by rw[<-aj]; simp[go_sem]
    have p1:w2.cell? ⟨wr.heap.size,1,none⟩=some (.int .i64 x.addr):=by rw[<-aj]; simp[go_sem]
    have p2:w2.cell? ⟨wr.heap.size,2,none⟩=some (.int .i64 x.owner):=by rw[<-aj]; simp[go_sem]
    have aM:wr.heap.size<w2.heap.size:=by rw[<-aj]; simp
    have al:=jq ab;clear ac av ht ab;go_wp2_with fail;clear aj f0 f1 f2;refine (nameValid_any sn cA _).mono ?_;rintro e w3 ⟨rfl,ag⟩;have er:=ag.size;have ar:=jq (al.out.trans (ag.mono (by omega)));replace p0:w3.cell? ⟨wr.heap.size,0,none⟩=some (.string sn):=(ag.cell (by simpa using aM)).trans p0;replace p1:w3.cell? ⟨wr.heap.size,1,none⟩=some (.int .i64 x.addr):=(ag.cell (by simpa using aM)).trans p1;replace p2:w3.cell? ⟨wr.heap.size,2,none⟩=some (.int .i64 x.owner):=(ag.cell (by simpa using aM)).trans p2;clear ag
    cases lA:Np.aD sn.data.toList with
    | false=>
     have HX:Hid (r=false):=jq (HF.out λh=>by have:=h.name; rw[<-aH.out,lA] at this; cases this);clear lA;go_wp2_with fail;go_ret;exact⟨ae HX.out.symm,HB.out.trans (ar.out.mono (by omega))⟩
    | true=>
     have gZ:=jq lA;clear lA;go_wp2_with fail;refine (aNY sn gZ.out _).mono ?_;rintro e w4 ⟨rfl,an⟩;have gC:=an.size;have bq:=jq (ar.out.trans (an.mono (by omega)));replace p1:w4.cell? ⟨wr.heap.size,1,none⟩=some (.int .i64 x.addr):=(an.cell (by dsimp only; omega)).trans p1;replace p2:w4.cell? ⟨wr.heap.size,2,none⟩=some (.int .i64 x.owner):=(an.cell (by dsimp only; omega)).trans p2;clear an p0
     cases sw:Np.eK sn.data.toList with
     | true=>
      have HX:Hid (r=false):=jq (HF.out λh=>by have:=h.wild; rw[<-aH.out,sw] at this; cases this);clear sw;go_wp2_with fail;go_ret;exact⟨ae HX.out.symm,HB.out.trans (bq.out.mono (by omega))⟩
     | false=>
      have Hy:=jq sw;clear sw;by_cases Pc:x.owner<0
      ·have HX:Hid (r=false):=jq (HF.out λh=>by have:=h.owner; omega);go_wp2_with fail;go_ret;exact⟨ae HX.out.symm,HB.out.trans (bq.out.mono (by omega))⟩
      ·have g1:decide (x.owner<0)=false:=by simpa using Pc
       by_cases lZ:32<=x.owner
       ·have g2:decide (32<=x.owner)=true:=by simpa using lZ
        have HX:Hid (r=false):=jq (HF.out λh=>by have:=h.owner; omega);go_wp2_with fail;go_ret;exact⟨ae HX.out.symm,HB.out.trans (bq.out.mono (by omega))⟩
       ·have g2:decide (32<=x.owner)=false:=by simpa using lZ
        have gm:Hid (0<=x.owner/\x.owner<=31):=jq (by omega);clear Pc lZ
        cases vO:Np.lR x.addr with
        | false=>
         have HX:Hid (r=false):=jq (HF.out λh=>by have:=h.addr; simp[Np.lR] at vO; omega);have HC:Hid (∀ w,Calls prog 129 #[.int .i64 x.addr] w λe w'=>e = .returned (.bool false)/\w=w'):=jq (λw=>by rw[<-vO]; exact K9 _ _);clear vO;go_wp2_with (go_at_call 129; refine (HC.out _).mono ?_; rintro e w' ⟨rfl,rfl⟩);go_ret;exact⟨ae HX.out.symm,HB.out.trans (bq.out.mono (by omega))⟩
        | true=>
         have bR:Hid (Np.HostOk x):=jq ⟨by rw[<-aH.out]; exact gZ.out,by rw[<-aH.out]; exact Hy.out,by simp[Np.lR] at vO; exact vO,gm.out⟩;have HC:Hid (∀ w,Calls prog 129 #[.int .i64 x.addr] w λe w'=>e = .returned (.bool true)/\w=w'):=jq (λw=>by rw[<-vO]; exact K9 _ _);have n9:Hid (m9 w.heap.size ((l.take k).map λh=>(h.addr,Value.bool true)) w4):=jq (HM.out.keep bq.out dz);obtain⟨Ev,JG⟩:=MX x.addr (l.take k);have l7:=aBJ (P:=prog) w4 184 3 4 underlying184 underlying3 w.heap.size _ n9.out x.addr (.bool false) (by kernel_rfl);rw[Ev] at l7;clear vO Ev;by_cases hin:x.addr∈(l.take k).map (·.addr)
         ·have HX:Hid (r=false):=jq (ri.out hin);rw[uQ hin] at l7;clear hin JG;go_wp2_with (go_at_call 129; refine (HC.out _).mono ?_; rintro e w' ⟨rfl,rfl⟩);go_ret;exact⟨ae HX.out.symm,HB.out.trans (bq.out.mono (by omega))⟩
         ·have km:=jq (JG hin);have GZ:Hid (((l.take (k+1)).map (·.addr)).Nodup):=jq (by
           rw[HT.out,List.map_append,List.nodup_append];refine⟨Aa.out,by simp,λy hy z hz e=>?_⟩;simp at hz;exact hin (by rw[<-hz,<-e]; exact hy))
          rw[tQ hin] at l7;clear hin JG;go_wp2_with (first
           | (go_at_call 129; refine (HC.out _).mono ?_; rintro e w' ⟨rfl,rfl⟩)
           | (at_mapUpdate; refine aQX _ rfl _ _ _ 184 rfl 3 4 underlying184 underlying3 w.heap.size _ rfl n9.out x.addr rfl (.bool true) rfl km.out ?_; intro w5 lY mc; have H5:=jq (And.intro lY mc); clear lY mc))
          go_roundw
          case rel=>exact⟨k+1,by omega,by go_num,jq ((HB.out.trans (bq.out.mono (by omega))).trans (H5.out.2.below (bQ _))),by rw[H5.out.2.size]; omega,jq (by rw[HT.out,List.map_append]; exact H5.out.1),jq (HN.out bR.out),GZ⟩
          case measure=>simp[intOf] <;> omega
   ·go_wp2_with fail;go_ret;refine⟨ae ?_,HB.out⟩;rw[<-HR.out];refine (Np.bM ⟨FY.out,λx hx=>?_,?_⟩).symm
    ·obtain⟨j,hj,rfl⟩:=nQ.1 hx;exact HA.out j _ (by omega) (aQ hj)
    ·have:=Aa.out
     rwa [kQ (by omega)] at this
 ·have HX:Hid (r=false):=jq (by rw[<-HR.out]; exact Np.aJ λq=>vJ q.few);have Xq:64<l.length:=by omega
  clear vJ;go_enter func73,ntmps73;go_wp2_with fail;go_ret;exact⟨ae HX.out.symm,vQ _ _⟩
section
variable {α:Type}
def MQ(R:World->Nat->List Value->α->Prop)(B:Nat)(w:World)(f:FuncId)(cap:Array Value)(p:α->Bool)(xs:List α):Prop:=
 ∀ (W:World) (x:α) (e0:Value),x∈xs->Below B w W->B<=W.heap.size->R W B [e0] x->Calls prog f (#[e0]++cap) W λe w'=>e = .returned (.bool (p x))/\Below W.heap.size W w'
theorem aaX{R:World->Nat->List Value->α->Prop}(hK:dw R)(f:FuncId)(eg:∀ args w,(callFunc f args).run prog w = .ok (.enter f args) w)(cap:Array Value)(p:α->Bool)(v:Value)(xs:List α)(w:World)(B:Nat)(hB:B<=w.heap.size)(h:SlR R 1 w B v xs)
 (hp:MQ R B w f cap p xs) :
 Calls prog 197 #[v,.func (.func f) #[] cap] w λe w'=>e = .returned (.int .i64 (kr p xs))/\Below w.heap.size w w':=by
 have H:=jq h;have HP:=jq hp;obtain⟨A,c,rfl,aV,bi,iF⟩:=h;clear iF hp;go_enter func197,ntmps197;go_wp2_with fail;go_loopw [8] (λi wr=>∃ k:Nat,k<=xs.length/\i = .int .i64 k/\Below w.heap.size w wr/\Hid (∀ x∈xs.take k,p x=false)) (λi _=>xs.length - (intOf i).toNat)
 case atStart=>exact⟨0,jQ _,rfl,vQ _ _,jq (by simp)⟩
 case round=>
  obtain⟨k,hk,rfl,hb,HA⟩:=hrel;by_cases aa:k<xs.length
  ·have bS:=hb.mono hB;obtain⟨A',c',hA',_,_,br⟩:=H.out.keep hK bS
   cases hA'
   obtain⟨b,o,e,rfl,bZ,hlen,hce,hR⟩:=br k _ (aQ aa)
   match e,hlen with
   | [e0],_=>
   have h0:wr.cell? ⟨b,o+k,none⟩=some e0:=by have:=hce 0 _ rfl; simpa using this
   have bT:=HP.out wr xs[k] e0 (List.getElem_mem aa) bS (by have:=hb.size; omega) hR;have HC:=jq bT;have bI:=jq hb;clear br hce hR bT bS hb;go_wp2_with (fail);refine HC.out.mono ?_;rintro e w2 ⟨rfl,ab⟩;have al:=jq ab;clear ab;by_cases ck:p xs[k]=true
   ·have HX:=jq ck;go_wp2_with (fail);go_ret;exact⟨iK (IA p xs k aa HA.out HX.out).symm,bI.out.trans (al.out.mono bI.out.size)⟩
   ·have yK:p xs[k]=false:=by simpa using ck
    have HX:=jq yK;clear ck;go_wp2_with (fail);go_roundw
    case rel=>
     refine⟨k+1,by omega,by go_num,bI.out.trans (al.out.mono bI.out.size),jq ?_⟩;rw[fQ aa];intro x hx;rcases List.mem_append.1 hx with h | h
     ·exact HA.out x h
     ·simp at h; subst h; exact HX.out
    case measure=>simp[intOf] <;> omega
  ·go_wp2_with fail;go_ret;exact⟨iK (IB p xs (by have:=HA.out; rwa [kQ (by omega)] at this)).symm,hb⟩
theorem VU{R:World->Nat->List Value->α->Prop}(hK:dw R)(f:FuncId)(eg:∀ args w,(callFunc f args).run prog w = .ok (.enter f args) w)(cap:Array Value)(p:α->Bool)(v:Value)(xs:List α)(w:World)(B:Nat)(hB:B<=w.heap.size)(h:SlR R 1 w B v xs)
 (hp:MQ R B w f cap p xs) :
 Calls prog 131 #[v,.func (.func f) #[] cap] w λe w'=>e = .returned (.bool (xs.any p))/\Below w.heap.size w w':=by
 have H:=jq h;have HP:=jq hp;have HE:=jq eg;clear h hp eg;go_enter func131,ntmps131;go_wp2_with (go_at_call 197; refine (aaX hK f HE.out cap p v xs w B hB H.out HP.out).mono ?_; rintro e w' ⟨rfl,hb⟩);go_ret;exact⟨ae (NI p xs),hb⟩
end
theorem azK(n:Int)(w:World) :
 Calls prog 132 #[.int .i64 n] w λe w'=>e = .returned (.bool (!Np.lR n))/\Below w.heap.size w w':=by
 obtain⟨q,hq⟩:∃ q,Np.lR n=q:=⟨_,rfl⟩;have HC:Hid (∀ w,Calls prog 129 #[.int .i64 n] w λe w'=>e = .returned (.bool q)/\w=w'):=jq (λw=>by rw[<-hq]; exact K9 _ _);rw[hq];clear hq
 cases q
 all_goals
  go_enter func132,ntmps132;go_wp2_with (go_at_call 129; refine (HC.out _).mono ?_; rintro e w' ⟨rfl,rfl⟩);go_ret;exact⟨rfl,vQ _ _⟩
theorem aMQ(s:ByteArray)(hs:s.size<=140737488355328)(ty life:Int)(dv:Value)(d:List Np.Datum)(hv:Value)(hints:List Int)(w:World)(hR:iS w w.heap.size)(hd:SlR cr 3 w w.heap.size dv d)(hh:SlR gJ 1 w w.heap.size hv hints) :
 Calls prog 75 #[.agg #[.string s,.int .i64 ty,.int .i64 life,dv],hv] w λe w'=>e = .returned (.bool (Np.yes (Np.VRoot ⟨s.data.toList,ty,life,d⟩ hints)))/\Below w.heap.size w w':=by
 obtain⟨r,hr⟩:∃ r,Np.yes (Np.VRoot ⟨s.data.toList,ty,life,d⟩ hints)=r:=⟨_,rfl⟩;rw[hr];have HR:=jq hr;have HD:=jq hd;have HH:=jq hh;have f9:=jq hR;obtain⟨A,c,rfl,aV,bi⟩:=ah hd;obtain⟨A2,c2,rfl,dG,dm⟩:=ah hh;clear hr hd hh hR;have HW:Hid (∀ o,Below w.heap.size w (w.alloc o)):=jq (λo=>(vQ _ w).alloc (bQ _) _);go_enter func75,ntmps75;go_wp2_with fail;refine (QY s hs ty life _ d _ ((f9.out.keep (HW.out _)).more (by simp)) (HD.out.later cB cZ (HW.out _))).mono ?_;rintro e w1 ⟨rfl,ap⟩;have bL:w.heap.size<w1.heap.size:=by have:=ap.size; simp at this; omega
 have c0:w1.cell? ⟨w.heap.size,0,none⟩=some (.string s):=by rw[ap.cell (by simp)]; go_simp
 have c1:w1.cell? ⟨w.heap.size,1,none⟩=some (.int .i64 ty):=by rw[ap.cell (by simp)]; go_simp
 have ay:=jq ((HW.out _).trans (ap.mono (by simp)));clear ap;obtain⟨n,hn⟩:∃ n,hints.length=n:=⟨_,rfl⟩;have HN:=jq hn;rw[hn] at HH dG dm |-;clear hn
 cases ft:Np.dX ⟨s.data.toList,ty,life,d⟩ with
 | false=>
  have HX:Hid (r=false):=jq (by rw[<-HR.out]; exact Np.aJ λq=>by have:=q.set; rw[ft] at this; cases this);clear ft;go_wp2_with fail;go_ret;exact⟨ae HX.out.symm,ay.out⟩
 | true=>
  have ga:=jq ft;clear ft;by_cases h6:ty=6
  ·by_cases nB:s.data.toList = [46]
   ·have Jj:(!s.toList == [46])=false:=by rw[dQ,nB]; rfl
    have Bc:(ty != 6)=false:=by simpa using h6
    have Gm:=jq nB;have H6:=jq h6;clear nB h6;by_cases aO:n<1
    ·have HX:Hid (r=false):=jq (by rw[<-HR.out]; exact Np.aJ λq=>by have:=q.few; rw[HN.out] at this; omega);have g1:decide ((n:Int)<1)=true:=by simp; omega
     clear aO;go_wp2_with fail;go_ret;exact⟨ae HX.out.symm,ay.out⟩
    ·have g1:decide ((n:Int)<1)=false:=by simp; omega
     by_cases yF:8<n
     ·have HX:Hid (r=false):=jq (by rw[<-HR.out]; exact Np.aJ λq=>by have:=q.few; rw[HN.out] at this; omega);have g2:decide ((8:Int)<(n:Int))=true:=by simp; omega
      clear aO yF;go_wp2_with fail;go_ret;exact⟨ae HX.out.symm,ay.out⟩
     ·have g2:decide ((8:Int)<(n:Int))=false:=by simp; omega
      have iO:Hid (1<=n/\n<=8):=jq (by omega);clear aO yF;have eg:∀ args w,(callFunc 132 args).run prog w = .ok (.enter 132 args) w:=enters_of func132 (by kernel_rfl) rfl;have Tc:=jq eg;clear eg;go_wp2_with fail;have eX:=HH.out.keep kR ay.out;rw[<-HN.out] at eX |-;refine (VU (R:=gJ) kR 132 Tc.out #[] (λn=>!Np.lR n) _ hints w1 w.heap.size (by omega) eX (λW x e0 _ _ _ hx=>by
       have hx : [e0] = [Value.int .i64 x]:=hx
       cases hx
       exact azK x W)).mono ?_
      rintro e w2 ⟨rfl,ab⟩;have al:=jq (ay.out.trans (ab.mono (by omega)));clear ab;have HQ:Hid ((hints.any λn=>!Np.lR n)=!r):=jq (by
       rw[<-HR.out]
       cases ha:hints.any λn=>!Np.lR n with
       | true=>
        obtain⟨x,hx,hb⟩:=List.any_eq_true.1 ha;rw[Np.aJ λq=>?_]; rfl
        have:=q.each x hx
        simp[Np.lR] at hb;omega
       | false=>
        rw[Np.bM]; rfl;refine⟨ga.out,H6.out,Gm.out,by have:=iO.out; rw[HN.out]; exact this,λx hx=>?_⟩
        have:=List.any_eq_false.1 ha x hx
        simpa [Np.lR] using this)
      rw[HQ.out];clear HQ
      cases r
      all_goals
       go_wp2_with fail;go_ret;exact⟨rfl,al.out⟩
   ·have HX:Hid (r=false):=jq (by rw[<-HR.out]; exact Np.aJ λq=>nB q.name);have Jj:(!s.toList == [46])=true:=by rw[dQ]; simpa using nB
    have Bc:(ty != 6)=false:=by simpa using h6
    clear nB h6;go_wp2_with fail;go_ret;exact⟨ae HX.out.symm,ay.out⟩
  ·have HX:Hid (r=false):=jq (by rw[<-HR.out]; exact Np.aJ λq=>h6 q.type);have Bc:(ty != 6)=true:=by simpa using h6
   clear h6;go_wp2_with fail;go_ret;exact⟨ae HX.out.symm,ay.out⟩
theorem axX(s:ByteArray)(hs:s.size<=140737488355328)(ty life:Int)(dv:Value)(d:List Np.Datum)(hv:Value)(hints:List Int)(w:World)(hd:SlR cr 3 w w.heap.size dv d)(hh:SlR gJ 1 w w.heap.size hv hints) :
 Calls prog 60 #[.agg #[.string s,.int .i64 ty,.int .i64 life,dv],hv] w λe w'=>e = .returned (.bool (Np.yes (Np.VRoot ⟨s.data.toList,ty,life,d⟩ hints)))/\Below w.heap.size w w':=by
 obtain⟨r,hr⟩:∃ r,Np.yes (Np.VRoot ⟨s.data.toList,ty,life,d⟩ hints)=r:=⟨_,rfl⟩;rw[hr];have HR:=jq hr;have HD:=jq hd;have HH:=jq hh;obtain⟨A,c,rfl,aV,bi⟩:=ah hd;obtain⟨A2,c2,rfl,dG,dm⟩:=ah hh;clear hr hd hh;have HW:Hid (∀ o,Below w.heap.size w (w.alloc o)):=jq (λo=>(vQ _ w).alloc (bQ _) _);go_enter func60,ntmps60;go_wp2_with fail;obtain⟨w1,ak⟩:∃ w1,w.alloc (.cells #[.string s,.int .i64 ty,.int .i64 life,.slice A d.length c] 26)=w1:=⟨_,rfl⟩;have c0:w1.cell? ⟨w.heap.size,0,none⟩=some (.string s):=by rw[<-ak]; simp[go_sem]
 have c1:w1.cell? ⟨w.heap.size,1,none⟩=some (.int .i64 ty):=by rw[<-ak]; simp[go_sem]
 have c2':w1.cell? ⟨w.heap.size,2,none⟩=some (.int .i64 life):=by rw[<-ak]; simp[go_sem]
 have c3:w1.cell? ⟨w.heap.size,3,none⟩=some (.slice A d.length c):=by rw[<-ak]; simp[go_sem]
 have bL:w1.heap.size=w.heap.size+1:=by rw[<-ak]; simp
 have ay:Hid (Below w.heap.size w w1):=jq (by rw[<-ak]; exact HW.out _);rw[ak];clear ak;obtain⟨n,hn⟩:∃ n,hints.length=n:=⟨_,rfl⟩;have HN:=jq hn;rw[hn] at HH dG dm |-;clear hn;go_loopw [5] (λi wr=>∃ k:Nat,k<=n/\i = .int .i64 k/\wr=w1/\Hid (∀ j x,j<k->hints[j]?=some x->1<=x/\x<=1000000)) (λi _=>n - (intOf i).toNat)
 case atStart=>exact⟨0,jQ _,rfl,rfl,jq (λj x hj=>by omega)⟩
 case round=>
  obtain⟨k,hk,rfl,rfl,HA⟩:=hrel;by_cases aa:k<n
  ·obtain⟨x,ac⟩:∃ x,hints[k]?=some x:=⟨_,aQ (by rw[HN.out]; exact aa)⟩;obtain⟨b,o,rfl,bS,f0⟩:=Kj (HH.out.keep kR ay.out) ac;have dS:Hid (1<=x/\x<=1000000->∀ j y,j<k+1->hints[j]?=some y->1<=y/\y<=1000000):=jq (λh j y hj hy=>by
    by_cases e:j=k
    ·subst e; rw[ac] at hy; cases hy; exact h
    ·exact HA.out j y (by omega) hy)
   have HF:Hid (¬ (1<=x/\x<=1000000)->r=false):=jq (λh=>by rw[<-HR.out]; exact Np.aJ λq=>h (q.each x (gQ ac)));have bH:(0:Int)<=(k:Int):=by omega
   have bG:(k:Int)<(n:Int):=by omega
   clear ac;by_cases h1:x<1
   ·have HX:=jq (HF.out (by omega));have g1:decide (x<1)=true:=by simpa using h1
    clear h1;go_wp2_with fail;go_ret;exact⟨ae HX.out.symm,ay.out⟩
   ·have g1:decide (x<1)=false:=by simpa using h1
    by_cases h2:1000000<x
    ·have HX:=jq (HF.out (by omega));have g2:decide (1000000<x)=true:=by simpa using h2
     clear h1 h2;go_wp2_with fail;go_ret;exact⟨ae HX.out.symm,ay.out⟩
    ·have HX:=jq (dS.out (by omega));have g2:decide (1000000<x)=false:=by simpa using h2
     clear h1 h2;go_wp2_with fail;go_roundw
     case rel=>exact⟨k+1,by omega,by go_num,by first | rfl | trivial,HX⟩
     case measure=>simp[intOf] <;> omega
  ·have pZ:Hid (∀ x∈hints,1<=x/\x<=1000000):=jq (λx hx=>by
    obtain⟨j,hj,rfl⟩:=nQ.1 hx;exact HA.out j _ (by have:=HN.out; omega) (aQ hj))
   go_wp2_with fail;refine (Q3 s hs ty life _ d _ (HD.out.later cB cZ ay.out)).mono ?_;rintro e w2 ⟨rfl,ab⟩;have aM:=ab.size;replace c0:w2.cell? ⟨w.heap.size,0,none⟩=some (.string s):=(ab.cell (by dsimp only; omega)).trans c0;replace c1:w2.cell? ⟨w.heap.size,1,none⟩=some (.int .i64 ty):=(ab.cell (by dsimp only; omega)).trans c1;have al:=jq (ay.out.trans (ab.mono (by omega)));clear ab c2' c3
   cases ft:Np.dX ⟨s.data.toList,ty,life,d⟩ with
   | false=>
    have HX:Hid (r=false):=jq (by rw[<-HR.out]; exact Np.aJ λq=>by have:=q.set; rw[ft] at this; cases this);clear ft;go_wp2_with fail;go_ret;exact⟨ae HX.out.symm,al.out⟩
   | true=>
    have ga:=jq ft;clear ft;by_cases h6:ty=6
    ·by_cases nB:s.data.toList = [46]
     ·have Jj:(s.toList == [46])=true:=by rw[dQ,nB]; rfl
      have Bc:(ty == 6)=true:=by simpa using h6
      have Gm:=jq nB;have H6:=jq h6;clear nB h6;by_cases aO:1<=n
      ·have g1:decide ((1:Int)<=(n:Int))=true:=by simp; omega
       by_cases yF:n<=8
       ·have HX:Hid (r=true):=jq (by rw[<-HR.out]; exact Np.bM ⟨ga.out,H6.out,Gm.out,by rw[HN.out]; exact⟨aO,yF⟩,pZ.out⟩);have g2:decide ((n:Int)<=8)=true:=by simp; omega
        clear aO yF;go_wp2_with fail;go_ret;exact⟨ae HX.out.symm,al.out⟩
       ·have HX:Hid (r=false):=jq (by rw[<-HR.out]; exact Np.aJ λq=>by have:=q.few; rw[HN.out] at this; omega);have g2:decide ((n:Int)<=8)=false:=by simp; omega
        clear aO yF;go_wp2_with fail;go_ret;exact⟨ae HX.out.symm,al.out⟩
      ·have HX:Hid (r=false):=jq (by rw[<-HR.out]; exact Np.aJ λq=>by have:=q.few; rw[HN.out] at this; omega);have g1:decide ((1:Int)<=(n:Int))=false:=by simp; omega
       clear aO;go_wp2_with fail;go_ret;exact⟨ae HX.out.symm,al.out⟩
     ·have HX:Hid (r=false):=jq (by rw[<-HR.out]; exact Np.aJ λq=>nB q.name);have Jj:(s.toList == [46])=false:=by rw[dQ]; simpa using nB
      have Bc:(ty == 6)=true:=by simpa using h6
      clear nB h6;go_wp2_with fail;go_ret;exact⟨ae HX.out.symm,al.out⟩
    ·have HX:Hid (r=false):=jq (by rw[<-HR.out]; exact Np.aJ λq=>h6 q.type);have Bc:(ty == 6)=false:=by simpa using h6
     clear h6;go_wp2_with fail;go_ret;exact⟨ae HX.out.symm,al.out⟩
def Np.pK(l:List Np.Host)(a:Int):Int:=kr (λh=>decide (h.addr=a)) l
theorem awY(v:Value)(l:List Np.Host)(w:World)(hd:SlR gb 3 w w.heap.size v l) :
 Calls prog 59 #[v] w λe w'=>e = .returned (.bool (Np.yes (Np.VHosts l)))/\Below w.heap.size w w':=by
 obtain⟨r,hr⟩:∃ r,Np.yes (Np.VHosts l)=r:=⟨_,rfl⟩;rw[hr];have HR:=jq hr;have HD:=jq hd;obtain⟨A,c,rfl,aV,bi⟩:=ah hd;clear hr hd;by_cases vJ:l.length<=64
 ·have FY:=jq vJ;go_enter func59,ntmps59;go_wp2_with fail;go_loopw [3] (λi wr=>∃ k:Nat,k<=l.length/\i = .int .i64 k/\Hid (Below w.heap.size w wr)/\Hid (∀ j x,j<k->l[j]?=some x->Np.HostOk x)/\Hid (((l.take k).map (·.addr)).Nodup)) (λi _=>l.length - (intOf i).toNat)
  case atStart=>exact⟨0,jQ _,rfl,jq (vQ _ _),jq (λj x hj=>by omega),jq (by simp)⟩
  case round=>
   obtain⟨k,hk,rfl,HB,HA,Aa⟩:=hrel;have dz:=HB.out.size;by_cases aa:k<l.length
   ·obtain⟨x,ac⟩:∃ x,l[k]?=some x:=⟨_,aQ aa⟩;obtain⟨b,o,sn,rfl,bS,av,cA,f0,f1,f2⟩:=rZ (HD.out.keep fw HB.out) ac;have ht:l.take (k+1)=l.take k ++ [x]:=by
     obtain⟨hl,he⟩:=cQ.1 ac;rw[fQ hl,he]
    have HT:=jq ht;have HN:Hid (Np.HostOk x->∀ j y,j<k+1->l[j]?=some y->Np.HostOk y):=jq (λh j y hj hy=>by
     by_cases e:j=k
     ·subst e; rw[ac] at hy; cases hy; exact h
     ·exact HA.out j y (by omega) hy)
    have HF:Hid (¬ Np.HostOk x->r=false):=jq (λh=>by rw[<-HR.out]; exact Np.aJ λq=>h (q.each x (gQ ac)));have ri:Hid (x.addr∈(l.take k).map (·.addr)->r=false):=jq (λh=>by
     rw[<-HR.out];refine Np.aJ λq=>?_;have h1:=q.addrs;have h2:(l.take (k+1)).map (·.addr) <+: l.map (·.addr):=by rw[List.map_take]; exact List.take_prefix _ _
     have h3:=h1.sublist h2.sublist;rw[ht,List.map_append,List.nodup_append] at h3;exact h3.2.2 x.addr h x.addr (by simp) rfl)
    have aH:=jq av;have cH:Hid (∀ o,Below wr.heap.size wr (wr.alloc o)):=jq (λo=>(vQ _ _).alloc (bQ _) _);obtain⟨w2,aj⟩:∃ w2,wr.alloc (.cells #[.string sn,.int .i64 x.addr,.int .i64 x.owner] 64)=w2:=⟨_,rfl⟩;have ab:Below wr.heap.size wr w2:=by rw[<-aj]; exact cH.out _
    have p0:w2.cell? ⟨wr.heap.size,0,none⟩=some (.string sn):=by rw[<-aj]; simp[go_sem]
    have p1:w2.cell? ⟨wr.heap.size,1,none⟩=some (.int .i64 x.addr):=by rw[<-aj]; simp[go_sem]
    have p2:w2.cell? ⟨wr.heap.size,2,none⟩=some (.int .i64 x.owner):=by rw[<-aj]; simp[go_sem]
    have aM:wr.heap.size<w2.heap.size:=by rw[<-aj]; simp
    have al:=jq ab;have bH:(0:Int)<=(k:Int):=by omega
    have bG:(k:Int)<(l.length:Int):=by omega
    clear ac av ht ab;go_wp2_with fail;clear aj f0 f1 f2;refine (zf sn cA _).mono ?_;rintro e w3 ⟨rfl,ag⟩;have er:=ag.size;have ar:=jq (al.out.trans (ag.mono (by omega)));replace p0:w3.cell? ⟨wr.heap.size,0,none⟩=some (.string sn):=(ag.cell (by simpa using aM)).trans p0;replace p1:w3.cell? ⟨wr.heap.size,1,none⟩=some (.int .i64 x.addr):=(ag.cell (by simpa using aM)).trans p1;replace p2:w3.cell? ⟨wr.heap.size,2,none⟩=some (.int .i64 x.owner):=(ag.cell (by simpa using aM)).trans p2;clear ag
    cases lA:Np.aD sn.data.toList with
    | false=>
     have HX:Hid (r=false):=jq (HF.out λh=>by have:=h.name; rw[<-aH.out,lA] at this; cases this);clear lA;go_wp2_with fail;go_ret;exact⟨ae HX.out.symm,HB.out.trans (ar.out.mono (by omega))⟩
    | true=>
     have gZ:=jq lA;clear lA;go_wp2_with fail;refine (Q5 sn gZ.out _).mono ?_;rintro e w4 ⟨rfl,an⟩;have gC:=an.size;have bq:=jq (ar.out.trans (an.mono (by omega)));replace p1:w4.cell? ⟨wr.heap.size,1,none⟩=some (.int .i64 x.addr):=(an.cell (by dsimp only; omega)).trans p1;replace p2:w4.cell? ⟨wr.heap.size,2,none⟩=some (.int .i64 x.owner):=(an.cell (by dsimp only; omega)).trans p2;clear an p0
     cases sw:Np.eK sn.data.toList with
     | true=>
      have HX:Hid (r=false):=jq (HF.out λh=>by have:=h.wild; rw[<-aH.out,sw] at this; cases this);clear sw;go_wp2_with fail;go_ret;exact⟨ae HX.out.symm,HB.out.trans (bq.out.mono (by omega))⟩
     | false=>
      have Hy:=jq sw;clear sw;have pz:decide (x.addr<1)=true\/decide (x.addr<1)=false/\(decide (1000000<x.addr)=true\/decide (1000000<x.addr)=false/\(decide (x.owner<0)=true\/decide (x.owner<0)=false/\(decide (31<x.owner)=true\/decide (31<x.owner)=false))):=by
       simp only[Qa,decide_eq_false_iff_not]; omega
      rcases pz with d1 | ⟨d1,d2 | ⟨d2,d3 | ⟨d3,d4 | d4⟩⟩⟩
      rotate_right
      ·have bR:Hid (Np.HostOk x):=jq (by
        simp only[decide_eq_false_iff_not] at d1 d2 d3 d4;exact⟨by rw[<-aH.out]; exact gZ.out,by rw[<-aH.out]; exact Hy.out,by omega,by omega⟩)
       go_wp2_with fail;obtain⟨wo,rfl⟩:∃ wo,wo=wr:=⟨_,rfl⟩;go_loopw [6] (λi wx=>∃ m:Nat,m<=k/\i = .int .i64 m/\Hid (Below w4.heap.size w4 wx)/\Hid (∀ j y,j<m->l[j]?=some y->y.addr≠x.addr)) (λi _=>k - (intOf i).toNat)
       case atStart=>exact⟨0,jQ _,rfl,jq (vQ _ _),jq (λj y hj=>by omega)⟩
       case round=>
        obtain⟨m,hm,rfl,gk,HX⟩:=hrel;have hzx:=gk.out.size;have q1:wr.cell? ⟨wo.heap.size,1,none⟩=some (.int .i64 x.addr):=(gk.out.cell (by dsimp only; omega)).trans p1;have aB:Hid (Below wo.heap.size wo wr):=jq (bq.out.trans (gk.out.mono (by omega)));by_cases Ew:m<k
        ·obtain⟨y,cj⟩:∃ y,l[m]?=some y:=⟨_,aQ (by omega)⟩;obtain⟨b9,o9,sy,NY,_,_,_,_,g1,_⟩:=rZ (HD.out.keep fw (HB.out.trans (aB.out.mono (by omega)))) cj;simp only[Option.some.injEq,Addr.mk.injEq,and_true] at NY;obtain⟨rfl,rfl⟩:=NY;have ju:(0:Int)<=(m:Int):=by omega
         have Ez:(m:Int)<(l.length:Int):=by omega
         have gh:decide ((m:Int)<(k:Int))=true:=by simp; omega
         by_cases he:y.addr=x.addr
         ·have HY:Hid (r=false):=jq (ri.out (List.mem_map.2 ⟨y,List.mem_iff_getElem?.2 ⟨m,by rw[List.getElem?_take,Qb Ew]; exact cj⟩,he⟩));have ge:(y.addr == x.addr)=true:=by simpa using he
          clear he cj;go_wp2_with fail;go_quiet (fail);go_wp2_with fail;go_ret;exact⟨ae HY.out.symm,below_drewN (HB.out.trans (aB.out.mono (by omega))) _⟩
         ·have HY:Hid (∀ j z,j<m+1->l[j]?=some z->z.addr≠x.addr):=jq (λj z hj hz=>by
           by_cases e:j=m
           ·subst e; rw[cj] at hz; cases hz; exact he
           ·exact HX.out j z (by omega) hz)
          have ge:(y.addr == x.addr)=false:=by simpa using he
          clear he cj;go_wp2_with fail;go_quiet (fail);go_wp2_with fail;go_roundw
          case rel=>exact⟨m+1,by omega,by go_num,jq (below_drewN gk.out _),HY⟩
          case measure=>simp[intOf] <;> omega
        ·have gh:decide ((m:Int)<(k:Int))=false:=by simp; omega
         have GZ:Hid (((l.take (k+1)).map (·.addr)).Nodup):=jq (by
          rw[HT.out,List.map_append,List.nodup_append];refine⟨Aa.out,by simp,λy hy z hz e=>?_⟩;simp at hz;obtain⟨u,hu,yM⟩:=List.mem_map.1 hy;obtain⟨j,hj,rfl⟩:=nQ.1 hu;rw[List.length_take] at hj;rw[List.getElem_take] at yM;exact HX.out j _ (by omega) (aQ (by omega)) (by rw[yM,e,hz]))
         go_wp2_with fail;go_roundw
         case rel=>exact⟨k+1,by omega,by go_num,jq (HB.out.trans (aB.out.mono (by omega))),jq (HN.out bR.out),GZ⟩
         case measure=>simp[intOf] <;> omega
      all_goals
       have HX:Hid (r=false):=jq (HF.out λh=>by
        have h1:=h.addr;have h2:=h.owner;simp only[Qa,decide_eq_false_iff_not] at *;omega)
       go_wp2_with fail;go_ret;exact⟨ae HX.out.symm,HB.out.trans (bq.out.mono (by omega))⟩
   ·go_wp2_with fail;go_ret;refine⟨ae ?_,HB.out⟩;rw[<-HR.out];refine (Np.bM ⟨FY.out,λx hx=>?_,?_⟩).symm
    ·obtain⟨j,hj,rfl⟩:=nQ.1 hx;exact HA.out j _ (by omega) (aQ hj)
    ·have:=Aa.out
     rwa [kQ (by omega)] at this
 ·have HX:Hid (r=false):=jq (by rw[<-HR.out]; exact Np.aJ λq=>vJ q.few);have Xq:64<l.length:=by omega
  clear vJ;go_enter func59,ntmps59;go_wp2_with fail;go_ret;exact⟨ae HX.out.symm,vQ _ _⟩
theorem FC{α:Type}{R:World->Nat->List Value->α->Prop}{sz n c:Nat}{w:World}{B:Nat}{xs:List α}(h:SlR R sz w B (.slice none n c) xs):n=0/\xs = []:=by
 obtain⟨A',c',hA',_,_,br⟩:=h;simp only[Value.slice.injEq] at hA';obtain⟨rfl,rfl,rfl⟩:=hA'
 cases xs with
 | nil=>exact⟨rfl,rfl⟩
 | cons x xs=>
  obtain⟨b,o,e,hA,_⟩:=br 0 x rfl
  cases hA
theorem Tryz.infoCloneDatum:(prog.info? 96).map (λi=>(i.zero,i.size,i.bytes))=some (some (.agg #[.string ⟨#[]⟩,.int .i64 0,.int .i64 0]),3,32):=by kernel_rfl
theorem Nf(v:Value)(xs:List Np.Datum)(hl:xs.length<=1000000)(w:World)(h:SlR cr 3 w w.heap.size v xs) :
 Calls prog 44 #[v] w λe w'=>∃ v',e = .returned v'/\bl cr 3 96 w.heap.size w.heap.size w' v' xs/\Below w.heap.size w w':=by
 have HD:=jq h;obtain⟨A,c,rfl,aV,bi⟩:=ah h;clear h;have heq:=run_eql_slice_nil (P:=prog) w 24 96 A xs.length c underlying24;have aY:Hid (Below w.heap.size w (w.alloc (.cells #[] 96))):=jq ((vQ _ _).alloc (bQ _) _);obtain⟨i0,hi,fS,bL,aM⟩:=info_parts Tryz.infoCloneDatum
 cases A with
 | none=>
  obtain⟨hn,rfl⟩:=FC HD.out;rw[List.length_nil] at heq |-;simp only[Option.isNone_none] at heq;go_enter func44,ntmps44;go_wp2_with fail;go_ret;exact⟨_,rfl,bl.nil _,vQ _ _⟩
 | some ad=>
  go_enter func44,ntmps44;go_wp2_with (at_builtin; refine FO (R:=cr) (sz:=3) _ rfl _ _ 24 rfl w.heap.size w.heap.size 96 i0 (.agg #[.string ⟨#[]⟩,.int .i64 0,.int .i64 0]) 32 underlying24 hi fS bL aM rfl (by decide) _ [] rfl (bl.empty w (bQ _)) (some ad) c w.heap.size xs rfl (HD.out.keep cB aY.out) (λr y h=>by (obtain⟨s,_,_,rfl⟩:=h; intro u hu; simp at hu; try rcases hu with rfl | rfl | rfl | rfl | rfl | rfl <;> rfl)) (by simp[maxLen]; omega) (by simp; omega) (by simp) (bQ _) (bQ _) cB cZ ?_; intro v3 w3 kD ag qB; have H3:=jq (And.intro kD (aY.out.trans ag)); clear kD ag qB);go_ret;exact⟨_,rfl,H3.out.1,H3.out.2⟩
theorem Tryz.infoCloneSig:(prog.info? 133).map (λi=>(i.zero,i.size,i.bytes))=some (some (.agg #[.string ⟨#[]⟩,.int .i64 0,.int .i64 0,.int .i64 0,.int .i64 0,.int .u64 0]),6,56):=by kernel_rfl
theorem VL(v:Value)(xs:List Np.Sig)(hl:xs.length<=1000000)(w:World)(h:SlR fj 6 w w.heap.size v xs) :
 Calls prog 92 #[v] w λe w'=>∃ v',e = .returned v'/\bl fj 6 133 w.heap.size w.heap.size w' v' xs/\Below w.heap.size w w':=by
 have HD:=jq h;obtain⟨A,c,rfl,aV,bi⟩:=ah h;clear h;have heq:=run_eql_slice_nil (P:=prog) w 66 133 A xs.length c underlying66;have aY:Hid (Below w.heap.size w (w.alloc (.cells #[] 133))):=jq ((vQ _ _).alloc (bQ _) _);obtain⟨i0,hi,fS,bL,aM⟩:=info_parts Tryz.infoCloneSig
 cases A with
 | none=>
  obtain⟨hn,rfl⟩:=FC HD.out;rw[List.length_nil] at heq |-;simp only[Option.isNone_none] at heq;go_enter func92,ntmps92;go_wp2_with fail;go_ret;exact⟨_,rfl,bl.nil _,vQ _ _⟩
 | some ad=>
  go_enter func92,ntmps92;go_wp2_with (at_builtin; refine FO (R:=fj) (sz:=6) _ rfl _ _ 66 rfl w.heap.size w.heap.size 133 i0 (.agg #[.string ⟨#[]⟩,.int .i64 0,.int .i64 0,.int .i64 0,.int .i64 0,.int .u64 0]) 56 underlying66 hi fS bL aM rfl (by decide) _ [] rfl (bl.empty w (bQ _)) (some ad) c w.heap.size xs rfl (HD.out.keep el aY.out) (λr y h=>by (obtain⟨s,_,_,rfl⟩:=h; intro u hu; simp at hu; try rcases hu with rfl | rfl | rfl | rfl | rfl | rfl <;> rfl)) (by simp[maxLen]; omega) (by simp; omega) (by simp) (bQ _) (bQ _) el fx ?_; intro v3 w3 kD ag qB; have H3:=jq (And.intro kD (aY.out.trans ag)); clear kD ag qB);go_ret;exact⟨_,rfl,H3.out.1,H3.out.2⟩
theorem Tryz.infoCloneHost:(prog.info? 64).map (λi=>(i.zero,i.size,i.bytes))=some (some (.agg #[.string ⟨#[]⟩,.int .i64 0,.int .i64 0]),3,32):=by kernel_rfl
theorem VJ(v:Value)(xs:List Np.Host)(hl:xs.length<=1000000)(w:World)(h:SlR gb 3 w w.heap.size v xs) :
 Calls prog 42 #[v] w λe w'=>∃ v',e = .returned v'/\bl gb 3 64 w.heap.size w.heap.size w' v' xs/\Below w.heap.size w w':=by
 have HD:=jq h;obtain⟨A,c,rfl,aV,bi⟩:=ah h;clear h;have heq:=run_eql_slice_nil (P:=prog) w 22 64 A xs.length c underlying22;have aY:Hid (Below w.heap.size w (w.alloc (.cells #[] 64))):=jq ((vQ _ _).alloc (bQ _) _);obtain⟨i0,hi,fS,bL,aM⟩:=info_parts Tryz.infoCloneHost
 cases A with
 | none=>
  obtain⟨hn,rfl⟩:=FC HD.out;rw[List.length_nil] at heq |-;simp only[Option.isNone_none] at heq;go_enter func42,ntmps42;go_wp2_with fail;go_ret;exact⟨_,rfl,bl.nil _,vQ _ _⟩
 | some ad=>
  go_enter func42,ntmps42;go_wp2_with (at_builtin; refine FO (R:=gb) (sz:=3) _ rfl _ _ 22 rfl w.heap.size w.heap.size 64 i0 (.agg #[.string ⟨#[]⟩,.int .i64 0,.int .i64 0]) 32 underlying22 hi fS bL aM rfl (by decide) _ [] rfl (bl.empty w (bQ _)) (some ad) c w.heap.size xs rfl (HD.out.keep fw aY.out) (λr y h=>by (obtain⟨s,_,_,rfl⟩:=h; intro u hu; simp at hu; try rcases hu with rfl | rfl | rfl | rfl | rfl | rfl <;> rfl)) (by simp[maxLen]; omega) (by simp; omega) (by simp) (bQ _) (bQ _) fw kP ?_; intro v3 w3 kD ag qB; have H3:=jq (And.intro kD (aY.out.trans ag)); clear kD ag qB);go_ret;exact⟨_,rfl,H3.out.1,H3.out.2⟩
theorem Tryz.infoCloneInt:(prog.info? 3).map (λi=>(i.zero,i.size,i.bytes))=some (some (.int .i64 0),1,8):=by kernel_rfl
theorem VK(v:Value)(xs:List Int)(hl:xs.length<=1000000)(w:World)(h:SlR gJ 1 w w.heap.size v xs) :
 Calls prog 43 #[v] w λe w'=>∃ v',e = .returned v'/\bl gJ 1 3 w.heap.size w.heap.size w' v' xs/\Below w.heap.size w w':=by
 have HD:=jq h;obtain⟨A,c,rfl,aV,bi⟩:=ah h;clear h;have heq:=run_eql_slice_nil (P:=prog) w 27 3 A xs.length c underlying27;have aY:Hid (Below w.heap.size w (w.alloc (.cells #[] 3))):=jq ((vQ _ _).alloc (bQ _) _);obtain⟨i0,hi,fS,bL,aM⟩:=info_parts Tryz.infoCloneInt
 cases A with
 | none=>
  obtain⟨hn,rfl⟩:=FC HD.out;rw[List.length_nil] at heq |-;simp only[Option.isNone_none] at heq;go_enter func43,ntmps43;go_wp2_with fail;go_ret;exact⟨_,rfl,bl.nil _,vQ _ _⟩
 | some ad=>
  go_enter func43,ntmps43;go_wp2_with (at_builtin; refine FO (R:=gJ) (sz:=1) _ rfl _ _ 27 rfl w.heap.size w.heap.size 3 i0 (.int .i64 0) 8 underlying27 hi fS bL aM rfl (by decide) _ [] rfl (bl.empty w (bQ _)) (some ad) c w.heap.size xs rfl (HD.out.keep kR aY.out) (λr y h=>by (obtain rfl:=h; intro u hu; simp at hu; try rcases hu with rfl | rfl | rfl | rfl | rfl | rfl <;> rfl)) (by simp[maxLen]; omega) (by simp; omega) (by simp) (bQ _) (bQ _) kR sI ?_; intro v3 w3 kD ag qB; have H3:=jq (And.intro kD (aY.out.trans ag)); clear kD ag qB);go_ret;exact⟨_,rfl,H3.out.1,H3.out.2⟩
end
end Go.Proofs.YtbfbobfbgabjiaaGreatDoor
