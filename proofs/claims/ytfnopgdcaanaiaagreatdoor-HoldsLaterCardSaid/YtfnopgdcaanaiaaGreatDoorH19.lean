/- Parts of the proof. No condition. -/
import Derived.Lib.LazyBuf
import Derived.Test.YtfnopgdcaanaiaaGreatDoorH10
import Derived.Test.YtfnopgdcaanaiaaGreatDoorH15
set_option linter.all false
set_option maxRecDepth 100000
set_option maxHeartbeats 8000000
namespace Go.Proofs.YtfnopgdcaanaiaaGreatDoor
open Go.Proofs.Tryz
section
open Go.RowKit
def iG(_:World)(_:Nat)(e:List Value)(x:Np.Host):Prop:=∃ s:ByteArray,s.data.toList=x.name/\s.size<=140737488355328/\e = [.string s,.int .i64 x.addr,.int .i64 x.owner]
theorem mI:cY iG:=λ_ _ _ _ _ h _=>h
theorem vJ:dw iG:=λ_ _ _ _ _ h _=>h
theorem yL{w:World}{B n c:Nat}{A:Option Addr}{xs:List Np.Host}(h:SlR iG 3 w B (.slice A n c) xs){k:Nat}{x:Np.Host}(hx:xs[k]?=some x):∃ (b o:Nat) (s:ByteArray),A=some ⟨b,o,none⟩/\b<B/\s.data.toList=x.name/\s.size<=140737488355328/\w.cell? ⟨b,o+k * 3,none⟩=some (.string s)/\w.cell? ⟨b,o+k * 3+1,none⟩=some (.int .i64 x.addr)/\w.cell? ⟨b,o+k * 3+2,none⟩=some (.int .i64 x.owner):=by
 obtain⟨A',c',hv,hc,_,he⟩:=h;simp only[Value.slice.injEq] at hv;obtain⟨rfl,_,_⟩:=hv;obtain⟨b,o,e,rfl,hb,_,hce,s,h1,h2,rfl⟩:=he k x hx;exact⟨b,o,s,rfl,hb,h1,h2,by have:=hce 0 _ rfl;simpa using this,hce 1 _ rfl,hce 2 _ rfl⟩
theorem VL{w:World}{B n c:Nat}{A:Option Addr}{xs:List Int}(h:SlR jn 1 w B (.slice A n c) xs){k:Nat}{x:Int}(hx:xs[k]?=some x):∃ (b o:Nat),A=some ⟨b,o,none⟩/\b<B/\w.cell? ⟨b,o+k,none⟩=some (.int .i64 x):=by
 obtain⟨A',c',hv,hc,_,he⟩:=h;simp only[Value.slice.injEq] at hv;obtain⟨rfl,_,_⟩:=hv;obtain⟨b,o,e,rfl,hb,_,hce,rfl⟩:=he k x hx;exact⟨b,o,rfl,hb,by have:=hce 0 _ rfl;simpa using this⟩
def Np.kr(n:Int):Bool:=decide (1<=n)&&decide (n<=1000000)
theorem GU(n:Int)(w:World) :
 Calls prog 247 #[.int .i64 n] w λe w'=>e = .returned (.bool (Np.kr n))/\w=w':=by
 obtain⟨r,hr⟩:∃ r,Np.kr n=r:=⟨_,rfl⟩;rw[hr];by_cases h1:1<=n
 ·by_cases h2:n<=1000000
  ·have HX:Hid (r=true):=jq (by rw[<-hr];simp[Np.kr,h1,h2]);clear hr;go_enter func247,ntmps247;go_wp2_with fail;go_ret;exact⟨ae HX.out.symm,rfl⟩
  ·have HX:Hid (r=false):=jq (by rw[<-hr];simp[Np.kr,h2]);clear hr;go_enter func247,ntmps247;go_wp2_with fail;go_ret;exact⟨ae HX.out.symm,rfl⟩
 ·have HX:Hid (r=false):=jq (by rw[<-hr];simp[Np.kr,h1]);clear hr;go_enter func247,ntmps247;go_wp2_with fail;go_ret;exact⟨ae HX.out.symm,rfl⟩
theorem Jk(a:Int):∀ l:List Np.Host,(((l.map λh=>(h.addr,Value.bool true)).lookup a).getD (.bool false) = .bool (decide (a∈l.map (·.addr))))/\(a∉l.map (·.addr)->(l.map λh=>(h.addr,Value.bool true)).lookup a=none)
 | []=>⟨rfl,λ_=>rfl⟩
 | h::l=>by
   obtain⟨i1,i2⟩:=Jk a l;rw[List.map_cons,List.map_cons];by_cases e:a=h.addr
   ·subst e;rw[List.lookup_cons_self];exact⟨by simp,λhn=>absurd (by simp) hn⟩
   ·have hb:(a == h.addr)=false:=by simpa using e
    rw[List.lookup_cons,hb];exact⟨by rw[i1];simp[e],λhn=>i2 λhm=>hn (mQ _ hm)⟩
theorem ZA(v:Value)(l:List Np.Host)(w:World)(hd:SlR iG 3 w w.heap.size v l) :
 Calls prog 180 #[v] w λe w'=>e = .returned (.bool (Np.yes (Np.VHosts l)))/\Below w.heap.size w w':=by
 obtain⟨r,hr⟩:∃ r,Np.yes (Np.VHosts l)=r:=⟨_,rfl⟩;rw[hr];have HR:=jq hr;have HD:=jq hd;obtain⟨A,c,rfl,bw,bT⟩:=al hd;clear hr hd;by_cases sV:l.length<=64
 ·have CS:=jq sV;have nF:∀ (w:World),(Instr.makeMap 298 none).run prog w = .ok (.map (some w.heap.size)) (w.alloc (.map #[] 0)):=λw=>by
   simp[Instr.makeMap,Result.andThen]
  go_enter func180,ntmps180;go_wp2_with fail;have so:=jq (lH.made w);have az:Below w.heap.size w (w.alloc (.map #[] 0)):=(vQ _ w).alloc (bQ _) _;have aq:=jq az;have bj:w.heap.size<(w.alloc (.map #[] 0)).heap.size:=by simp
  clear az;generalize w.alloc (.map #[] 0)=w1 at *;go_loopw [12] (λi wr=>∃ k:Nat,k<=l.length/\i = .int .i64 k/\Hid (Below w.heap.size w wr)/\w.heap.size<wr.heap.size/\Hid (lH w.heap.size ((l.take k).map λh=>(h.addr,Value.bool true)) wr)/\Hid (∀ j x,j<k->l[j]?=some x->Np.HostOk x)/\Hid (((l.take k).map (·.addr)).Nodup)) (λi _=>l.length - (intOf i).toNat)
  case atStart=>exact⟨0,jQ _,rfl,aq,bj,so,jq (λj x hj=>by omega),jq (by simp)⟩
  case round=>
   obtain⟨k,hk,rfl,HB,cZ,HM,HA,wL⟩:=hrel;by_cases aa:k<l.length
   ·obtain⟨x,ab⟩:∃ x,l[k]?=some x:=⟨_,aQ aa⟩;obtain⟨b,o,sn,rfl,bJ,ay,cw,f0,f1,f2⟩:=yL (HD.out.keep mI HB.out) ab;have ht:l.take (k+1)=l.take k ++ [x]:=by
     obtain⟨hl,he⟩:=cQ.1 ab;rw[fQ hl,he]
    have HT:=jq ht;have HN:Hid (Np.HostOk x->∀ j y,j<k+1->l[j]?=some y->Np.HostOk y):=jq (λh j y hj hy=>by
     by_cases e:j=k
     ·subst e;rw[ab] at hy;cases hy;exact h
     ·exact HA.out j y (by omega) hy)
    have HF:Hid (¬ Np.HostOk x->r=false):=jq (λh=>by rw[<-HR.out];exact Np.aF λq=>h (q.each x (gQ ab)));have rY:Hid (x.addr∈(l.take k).map (·.addr)->r=false):=jq (λh=>by
     rw[<-HR.out];refine Np.aF λq=>?_;have h1:=q.addrs;have h2:(l.take (k+1)).map (·.addr) <+: l.map (·.addr):=by rw[List.map_take];exact List.take_prefix _ _
     have h3:=h1.sublist h2.sublist;rw[ht,List.map_append,List.nodup_append] at h3;exact h3.2.2 x.addr h x.addr (by simp) rfl)
    have aL:=jq ay;have eW:Hid (∀ o,Below wr.heap.size wr (wr.alloc o)):=jq (λo=>(vQ _ _).alloc (bQ _) _);obtain⟨w2,ai⟩:∃ w2,wr.alloc (.cells #[.string sn,.int .i64 x.addr,.int .i64 x.owner] 101)=w2:=⟨_,rfl⟩;have ac:Below wr.heap.size wr w2:=by rw[<-ai];exact eW.out _
    have p0:w2.cell? ⟨wr.heap.size,0,none⟩=some (.string sn):=by rw[<-ai];simp[go_sem]
    have p1:w2.cell? ⟨wr.heap.size,1,none⟩=some (.int .i64 x.addr):=by rw[<-ai];simp[go_sem]
    have p2:w2.cell? ⟨wr.heap.size,2,none⟩=some (.int .i64 x.owner):=by rw[<-ai];simp[go_sem]
    have aJ:wr.heap.size<w2.heap.size:=by rw[<-ai];simp
    have aj:=jq ac;clear ab ay ht ac;go_wp2_with fail;clear ai f0 f1 f2;refine (nameValid_any sn cw _).mono ?_;rintro e w3 ⟨rfl,ak⟩;have el:=ak.size;have ar:=jq (aj.out.trans (ak.mono (by omega)));replace p0:w3.cell? ⟨wr.heap.size,0,none⟩=some (.string sn):=(ak.cell (by simpa using aJ)).trans p0;replace p1:w3.cell? ⟨wr.heap.size,1,none⟩=some (.int .i64 x.addr):=(ak.cell (by simpa using aJ)).trans p1;replace p2:w3.cell? ⟨wr.heap.size,2,none⟩=some (.int .i64 x.owner):=(ak.cell (by simpa using aJ)).trans p2;clear ak
    cases kc:Np.aC sn.data.toList with
    | false=>
     have HX:Hid (r=false):=jq (HF.out λh=>by have:=h.name;rw[<-aL.out,kc] at this;cases this);clear kc;go_wp2_with fail;go_ret;exact⟨ae HX.out.symm,HB.out.trans (ar.out.mono (by omega))⟩
    | true=>
     have gi:=jq kc;clear kc;go_wp2_with fail;refine (ZN sn gi.out _).mono ?_;rintro e w4 ⟨rfl,av⟩;have em:=av.size;have ba:=jq (ar.out.trans (av.mono (by omega)));replace p1:w4.cell? ⟨wr.heap.size,1,none⟩=some (.int .i64 x.addr):=(av.cell (by dsimp only;omega)).trans p1;replace p2:w4.cell? ⟨wr.heap.size,2,none⟩=some (.int .i64 x.owner):=(av.cell (by dsimp only;omega)).trans p2;clear av p0
     cases p8:Np.dL sn.data.toList with
     | true=>
      have HX:Hid (r=false):=jq (HF.out λh=>by have:=h.wild;rw[<-aL.out,p8] at this;cases this);clear p8;go_wp2_with fail;go_ret;exact⟨ae HX.out.symm,HB.out.trans (ba.out.mono (by omega))⟩
     | false=>
      have Ea:=jq p8;clear p8;by_cases Ld:x.owner<0
      ·have HX:Hid (r=false):=jq (HF.out λh=>by have:=h.owner;omega);go_wp2_with fail;go_ret;exact⟨ae HX.out.symm,HB.out.trans (ba.out.mono (by omega))⟩
      ·have g1:decide (x.owner<0)=false:=by simpa using Ld
       by_cases kD:32<=x.owner
       ·have g2:decide (32<=x.owner)=true:=by simpa using kD
        have HX:Hid (r=false):=jq (HF.out λh=>by have:=h.owner;omega);go_wp2_with fail;go_ret;exact⟨ae HX.out.symm,HB.out.trans (ba.out.mono (by omega))⟩
       ·have g2:decide (32<=x.owner)=false:=by simpa using kD
        have gu:Hid (0<=x.owner/\x.owner<=31):=jq (by omega);clear Ld kD
        cases s6:Np.kr x.addr with
        | false=>
         have HX:Hid (r=false):=jq (HF.out λh=>by have:=h.addr;simp[Np.kr] at s6;omega);have HC:Hid (∀ w,Calls prog 247 #[.int .i64 x.addr] w λe w'=>e = .returned (.bool false)/\w=w'):=jq (λw=>by rw[<-s6];exact GU _ _);clear s6;go_wp2_with (go_at_call 247;refine (HC.out _).mono ?_;rintro e w' ⟨rfl,rfl⟩);go_ret;exact⟨ae HX.out.symm,HB.out.trans (ba.out.mono (by omega))⟩
        | true=>
         have bk:Hid (Np.HostOk x):=jq ⟨by rw[<-aL.out];exact gi.out,by rw[<-aL.out];exact Ea.out,by simp[Np.kr] at s6;exact s6,gu.out⟩;have HC:Hid (∀ w,Calls prog 247 #[.int .i64 x.addr] w λe w'=>e = .returned (.bool true)/\w=w'):=jq (λw=>by rw[<-s6];exact GU _ _);have gd:Hid (lH w.heap.size ((l.take k).map λh=>(h.addr,Value.bool true)) w4):=jq (HM.out.keep ba.out cZ);obtain⟨BF,Fw⟩:=Jk x.addr (l.take k);have gW:=YC (P:=prog) w4 298 3 4 underlying298 underlying3 w.heap.size _ gd.out x.addr (.bool false) (by kernel_rfl);rw[BF] at gW;clear s6 BF;by_cases hin:x.addr∈(l.take k).map (·.addr)
         ·have HX:Hid (r=false):=jq (rY.out hin);rw[uQ hin] at gW;clear hin Fw;go_wp2_with (go_at_call 247;refine (HC.out _).mono ?_;rintro e w' ⟨rfl,rfl⟩);go_ret;exact⟨ae HX.out.symm,HB.out.trans (ba.out.mono (by omega))⟩
         ·have jk:=jq (Fw hin);have DI:Hid (((l.take (k+1)).map (·.addr)).Nodup):=jq (by
           rw[HT.out,List.map_append,List.nodup_append];refine⟨wL.out,by simp,λy hy z hz e=>?_⟩;simp at hz;exact hin (by rw[<-hz,<-e];exact hy))
          rw[tQ hin] at gW;clear hin Fw;go_wp2_with (first
           | (go_at_call 247;refine (HC.out _).mono ?_;rintro e w' ⟨rfl,rfl⟩)
           | (at_mapUpdate;refine Z5 _ rfl _ _ _ 298 rfl 3 4 underlying298 underlying3 w.heap.size _ rfl gd.out x.addr rfl (.bool true) rfl jk.out ?_;intro w5 lj kH;have H5:=jq (And.intro lj kH);clear lj kH))
          go_roundw
          case rel=>exact⟨k+1,by omega,by go_num,jq ((HB.out.trans (ba.out.mono (by omega))).trans (H5.out.2.below (bQ _))),by rw[H5.out.2.size];omega,jq (by rw[HT.out,List.map_append];exact H5.out.1),jq (HN.out bk.out),DI⟩
          case measure=>simp[intOf] <;> omega
   ·go_wp2_with fail;go_ret;refine⟨ae ?_,HB.out⟩;rw[<-HR.out];refine (Np.bB ⟨CS.out,λx hx=>?_,?_⟩).symm
    ·obtain⟨j,hj,rfl⟩:=nQ.1 hx;exact HA.out j _ (by omega) (aQ hj)
    ·have:=wL.out
     rwa [kQ (by omega)] at this
 ·have HX:Hid (r=false):=jq (by rw[<-HR.out];exact Np.aF λq=>sV q.few);have SS:64<l.length:=by omega
  clear sV;go_enter func180,ntmps180;go_wp2_with fail;go_ret;exact⟨ae HX.out.symm,vQ _ _⟩
section
variable {α:Type}
def Jb(R:World->Nat->List Value->α->Prop)(B:Nat)(w:World)(f:FuncId)(cap:Array Value)(p:α->Bool)(xs:List α):Prop:=
 ∀ (W:World) (x:α) (e0:Value),x∈xs->Below B w W->B<=W.heap.size->R W B [e0] x->Calls prog f (#[e0]++cap) W λe w'=>e = .returned (.bool (p x))/\Below W.heap.size W w'
theorem VJ{R:World->Nat->List Value->α->Prop}(hK:cY R)(f:FuncId)(eg:∀ args w,(callFunc f args).run prog w = .ok (.enter f args) w)(cap:Array Value)(p:α->Bool)(v:Value)(xs:List α)(w:World)(B:Nat)(hB:B<=w.heap.size)(h:SlR R 1 w B v xs)
 (hp:Jb R B w f cap p xs) :
 Calls prog 319 #[v,.func (.func f) #[] cap] w λe w'=>e = .returned (.int .i64 (kW p xs))/\Below w.heap.size w w':=by
 have H:=jq h;have HP:=jq hp;obtain⟨A,c,rfl,bw,bT,jy⟩:=h;clear jy hp;go_enter func319,ntmps319;go_wp2_with fail;go_loopw [8] (λi wr=>∃ k:Nat,k<=xs.length/\i = .int .i64 k/\Below w.heap.size w wr/\Hid (∀ x∈xs.take k,p x=false)) (λi _=>xs.length - (intOf i).toNat)
 case atStart=>exact⟨0,jQ _,rfl,vQ _ _,jq (by simp)⟩
 case round=>
  obtain⟨k,hk,rfl,hb,HA⟩:=hrel;by_cases aa:k<xs.length
  ·have bJ:=hb.mono hB;obtain⟨A',c',hA',_,_,bK⟩:=H.out.keep hK bJ
   cases hA'
   obtain⟨b,o,e,rfl,bG,hlen,hce,hR⟩:=bK k _ (aQ aa)
   match e,hlen with
   | [e0],_=>
   have h0:wr.cell? ⟨b,o+k,none⟩=some e0:=by have:=hce 0 _ rfl;simpa using this
   have cC:=HP.out wr xs[k] e0 (List.getElem_mem aa) bJ (by have:=hb.size;omega) hR;have HC:=jq cC;have jI:=jq hb;clear bK hce hR cC bJ hb;go_wp2_with (fail);refine HC.out.mono ?_;rintro e w2 ⟨rfl,ac⟩;have aj:=jq ac;clear ac;by_cases bp:p xs[k]=true
   ·have HX:=jq bp;go_wp2_with (fail);go_ret;exact⟨iv (JS p xs k aa HA.out HX.out).symm,jI.out.trans (aj.out.mono jI.out.size)⟩
   ·have BN:p xs[k]=false:=by simpa using bp
    have HX:=jq BN;clear bp;go_wp2_with (fail);go_roundw
    case rel=>
     refine⟨k+1,by omega,by go_num,jI.out.trans (aj.out.mono jI.out.size),jq ?_⟩;rw[fQ aa];intro x hx;rcases List.mem_append.1 hx with h | h
     ·exact HA.out x h
     ·simp at h;subst h;exact HX.out
    case measure=>simp[intOf] <;> omega
  ·go_wp2_with fail;go_ret;exact⟨iv (JU p xs (by have:=HA.out;rwa [kQ (by omega)] at this)).symm,hb⟩
theorem RL{R:World->Nat->List Value->α->Prop}(hK:cY R)(f:FuncId)(eg:∀ args w,(callFunc f args).run prog w = .ok (.enter f args) w)(cap:Array Value)(p:α->Bool)(v:Value)(xs:List α)(w:World)(B:Nat)(hB:B<=w.heap.size)(h:SlR R 1 w B v xs)
 (hp:Jb R B w f cap p xs) :
 Calls prog 248 #[v,.func (.func f) #[] cap] w λe w'=>e = .returned (.bool (xs.any p))/\Below w.heap.size w w':=by
 have H:=jq h;have HP:=jq hp;have HE:=jq eg;clear h hp eg;go_enter func248,ntmps248;go_wp2_with (go_at_call 319;refine (VJ hK f HE.out cap p v xs w B hB H.out HP.out).mono ?_;rintro e w' ⟨rfl,hb⟩);go_ret;exact⟨ae (JT p xs),hb⟩
end
theorem Yq(n:Int)(w:World) :
 Calls prog 249 #[.int .i64 n] w λe w'=>e = .returned (.bool (!Np.kr n))/\Below w.heap.size w w':=by
 obtain⟨q,hq⟩:∃ q,Np.kr n=q:=⟨_,rfl⟩;have HC:Hid (∀ w,Calls prog 247 #[.int .i64 n] w λe w'=>e = .returned (.bool q)/\w=w'):=jq (λw=>by rw[<-hq];exact GU _ _);rw[hq];clear hq
 cases q
 all_goals
  go_enter func249,ntmps249;go_wp2_with (go_at_call 247;refine (HC.out _).mono ?_;rintro e w' ⟨rfl,rfl⟩);go_ret;exact⟨rfl,vQ _ _⟩
theorem ZB(s:ByteArray)(hs:s.size<=140737488355328)(ty life:Int)(dv:Value)(d:List Np.Datum)(hv:Value)(hints:List Int)(w:World)(hR:iH w w.heap.size)(hd:SlR bn 3 w w.heap.size dv d)(hh:SlR jn 1 w w.heap.size hv hints) :
 Calls prog 182 #[.agg #[.string s,.int .i64 ty,.int .i64 life,dv],hv] w λe w'=>e = .returned (.bool (Np.yes (Np.VRoot ⟨s.data.toList,ty,life,d⟩ hints)))/\Below w.heap.size w w':=by
 obtain⟨r,hr⟩:∃ r,Np.yes (Np.VRoot ⟨s.data.toList,ty,life,d⟩ hints)=r:=⟨_,rfl⟩;rw[hr];have HR:=jq hr;have HD:=jq hd;have HH:=jq hh;have gv:=jq hR;obtain⟨A,c,rfl,bw,bT⟩:=al hd;obtain⟨A2,c2,rfl,eG,dI⟩:=al hh;clear hr hd hh hR;have HW:Hid (∀ o,Below w.heap.size w (w.alloc o)):=jq (λo=>(vQ _ w).alloc (bQ _) _);go_enter func182,ntmps182;go_wp2_with fail;refine (M7 s hs ty life _ d _ ((gv.out.keep (HW.out _)).more (by simp)) (HD.out.later de eN (HW.out _))).mono ?_;rintro e w1 ⟨rfl,az⟩;have bj:w.heap.size<w1.heap.size:=by have:=az.size;simp at this;omega
 have c0:w1.cell? ⟨w.heap.size,0,none⟩=some (.string s):=by rw[az.cell (by simp)];go_simp
 have c1:w1.cell? ⟨w.heap.size,1,none⟩=some (.int .i64 ty):=by rw[az.cell (by simp)];go_simp
 have aq:=jq ((HW.out _).trans (az.mono (by simp)));clear az;obtain⟨n,hn⟩:∃ n,hints.length=n:=⟨_,rfl⟩;have HN:=jq hn;rw[hn] at HH eG dI |-;clear hn
 cases eL:Np.cW ⟨s.data.toList,ty,life,d⟩ with
 | false=>
  have HX:Hid (r=false):=jq (by rw[<-HR.out];exact Np.aF λq=>by have:=q.set;rw[eL] at this;cases this);clear eL;go_wp2_with fail;go_ret;exact⟨ae HX.out.symm,aq.out⟩
 | true=>
  have jl:=jq eL;clear eL;by_cases h6:ty=6
  ·by_cases lO:s.data.toList = [46]
   ·have Fm:(!s.toList == [46])=false:=by rw[dQ,lO];rfl
    have xM:(ty != 6)=false:=by simpa using h6
    have Dc:=jq lO;have H6:=jq h6;clear lO h6;by_cases bl:n<1
    ·have HX:Hid (r=false):=jq (by rw[<-HR.out];exact Np.aF λq=>by have:=q.few;rw[HN.out] at this;omega);have g1:decide ((n:Int)<1)=true:=by simp;omega
     clear bl;go_wp2_with fail;go_ret;exact⟨ae HX.out.symm,aq.out⟩
    ·have g1:decide ((n:Int)<1)=false:=by simp;omega
     by_cases vg:8<n
     ·have HX:Hid (r=false):=jq (by rw[<-HR.out];exact Np.aF λq=>by have:=q.few;rw[HN.out] at this;omega);have g2:decide ((8:Int)<(n:Int))=true:=by simp;omega
      clear bl vg;go_wp2_with fail;go_ret;exact⟨ae HX.out.symm,aq.out⟩
     ·have g2:decide ((8:Int)<(n:Int))=false:=by simp;omega
      have gO:Hid (1<=n/\n<=8):=jq (by omega);clear bl vg;have eg:∀ args w,(callFunc 249 args).run prog w = .ok (.enter 249 args) w:=enters_of func249 (by kernel_rfl) rfl;have Ps:=jq eg;clear eg;go_wp2_with fail;have cD:=HH.out.keep oP aq.out;rw[<-HN.out] at cD |-;refine (RL (R:=jn) oP 249 Ps.out #[] (λn=>!Np.kr n) _ hints w1 w.heap.size (by omega) cD (λW x e0 _ _ _ hx=>by
       have hx : [e0] = [Value.int .i64 x]:=hx
       cases hx
       exact Yq x W)).mono ?_
      rintro e w2 ⟨rfl,ac⟩;have aj:=jq (aq.out.trans (ac.mono (by omega)));clear ac;have HQ:Hid ((hints.any λn=>!Np.kr n)=!r):=jq (by
       rw[<-HR.out]
       cases ha:hints.any λn=>!Np.kr n with
       | true=>
        obtain⟨x,hx,hb⟩:=List.any_eq_true.1 ha;rw[Np.aF λq=>?_];rfl
        have:=q.each x hx
        simp[Np.kr] at hb;omega
       | false=>
        rw[Np.bB];rfl;refine⟨jl.out,H6.out,Dc.out,by have:=gO.out;rw[HN.out];exact this,λx hx=>?_⟩
        have:=List.any_eq_false.1 ha x hx
        simpa [Np.kr] using this)
      rw[HQ.out];clear HQ
      cases r
      all_goals
       go_wp2_with fail;go_ret;exact⟨rfl,aj.out⟩
   ·have HX:Hid (r=false):=jq (by rw[<-HR.out];exact Np.aF λq=>lO q.name);have Fm:(!s.toList == [46])=true:=by rw[dQ];simpa using lO
    have xM:(ty != 6)=false:=by simpa using h6
    clear lO h6;go_wp2_with fail;go_ret;exact⟨ae HX.out.symm,aq.out⟩
  ·have HX:Hid (r=false):=jq (by rw[<-HR.out];exact Np.aF λq=>h6 q.type);have xM:(ty != 6)=true:=by simpa using h6
   clear h6;go_wp2_with fail;go_ret;exact⟨ae HX.out.symm,aq.out⟩
theorem Ye(s:ByteArray)(hs:s.size<=140737488355328)(ty life:Int)(dv:Value)(d:List Np.Datum)(hv:Value)(hints:List Int)(w:World)(hd:SlR bn 3 w w.heap.size dv d)(hh:SlR jn 1 w w.heap.size hv hints) :
 Calls prog 88 #[.agg #[.string s,.int .i64 ty,.int .i64 life,dv],hv] w λe w'=>e = .returned (.bool (Np.yes (Np.VRoot ⟨s.data.toList,ty,life,d⟩ hints)))/\Below w.heap.size w w':=by
 obtain⟨r,hr⟩:∃ r,Np.yes (Np.VRoot ⟨s.data.toList,ty,life,d⟩ hints)=r:=⟨_,rfl⟩;rw[hr];have HR:=jq hr;have HD:=jq hd;have HH:=jq hh;obtain⟨A,c,rfl,bw,bT⟩:=al hd;obtain⟨A2,c2,rfl,eG,dI⟩:=al hh;clear hr hd hh;have HW:Hid (∀ o,Below w.heap.size w (w.alloc o)):=jq (λo=>(vQ _ w).alloc (bQ _) _);go_enter func88,ntmps88;go_wp2_with fail;obtain⟨w1,ah⟩:∃ w1,w.alloc (.cells #[.string s,.int .i64 ty,.int .i64 life,.slice A d.length c] 26)=w1:=⟨_,rfl⟩;have c0:w1.cell? ⟨w.heap.size,0,none⟩=some (.string s):=by rw[<-ah];simp[go_sem]
 have c1:w1.cell? ⟨w.heap.size,1,none⟩=some (.int .i64 ty):=by rw[<-ah];simp[go_sem]
 have c2':w1.cell? ⟨w.heap.size,2,none⟩=some (.int .i64 life):=by rw[<-ah];simp[go_sem]
 have c3:w1.cell? ⟨w.heap.size,3,none⟩=some (.slice A d.length c):=by rw[<-ah];simp[go_sem]
 have bj:w1.heap.size=w.heap.size+1:=by rw[<-ah];simp
 have aq:Hid (Below w.heap.size w w1):=jq (by rw[<-ah];exact HW.out _);rw[ah];clear ah;obtain⟨n,hn⟩:∃ n,hints.length=n:=⟨_,rfl⟩;have HN:=jq hn;rw[hn] at HH eG dI |-;clear hn;go_loopw [5] (λi wr=>∃ k:Nat,k<=n/\i = .int .i64 k/\wr=w1/\Hid (∀ j x,j<k->hints[j]?=some x->1<=x/\x<=1000000)) (λi _=>n - (intOf i).toNat)
 case atStart=>exact⟨0,jQ _,rfl,rfl,jq (λj x hj=>by omega)⟩
 case round=>
  obtain⟨k,hk,rfl,rfl,HA⟩:=hrel;by_cases aa:k<n
  ·obtain⟨x,ab⟩:∃ x,hints[k]?=some x:=⟨_,aQ (by rw[HN.out];exact aa)⟩;obtain⟨b,o,rfl,bJ,f0⟩:=VL (HH.out.keep oP aq.out) ab;have cJ:Hid (1<=x/\x<=1000000->∀ j y,j<k+1->hints[j]?=some y->1<=y/\y<=1000000):=jq (λh j y hj hy=>by
    by_cases e:j=k
    ·subst e;rw[ab] at hy;cases hy;exact h
    ·exact HA.out j y (by omega) hy)
   have HF:Hid (¬ (1<=x/\x<=1000000)->r=false):=jq (λh=>by rw[<-HR.out];exact Np.aF λq=>h (q.each x (gQ ab)));have bO:(0:Int)<=(k:Int):=by omega
   have bM:(k:Int)<(n:Int):=by omega
   clear ab;by_cases h1:x<1
   ·have HX:=jq (HF.out (by omega));have g1:decide (x<1)=true:=by simpa using h1
    clear h1;go_wp2_with fail;go_ret;exact⟨ae HX.out.symm,aq.out⟩
   ·have g1:decide (x<1)=false:=by simpa using h1
    by_cases h2:1000000<x
    ·have HX:=jq (HF.out (by omega));have g2:decide (1000000<x)=true:=by simpa using h2
     clear h1 h2;go_wp2_with fail;go_ret;exact⟨ae HX.out.symm,aq.out⟩
    ·have HX:=jq (cJ.out (by omega));have g2:decide (1000000<x)=false:=by simpa using h2
     clear h1 h2;go_wp2_with fail;go_roundw
     case rel=>exact⟨k+1,by omega,by go_num,by first | rfl | trivial,HX⟩
     case measure=>simp[intOf] <;> omega
  ·have nT:Hid (∀ x∈hints,1<=x/\x<=1000000):=jq (λx hx=>by
    obtain⟨j,hj,rfl⟩:=nQ.1 hx;exact HA.out j _ (by have:=HN.out;omega) (aQ hj))
   go_wp2_with fail;refine (Nd s hs ty life _ d _ (HD.out.later de eN aq.out)).mono ?_;rintro e w2 ⟨rfl,ac⟩;have aJ:=ac.size;replace c0:w2.cell? ⟨w.heap.size,0,none⟩=some (.string s):=(ac.cell (by dsimp only;omega)).trans c0;replace c1:w2.cell? ⟨w.heap.size,1,none⟩=some (.int .i64 ty):=(ac.cell (by dsimp only;omega)).trans c1;have aj:=jq (aq.out.trans (ac.mono (by omega)));clear ac c2' c3
   cases eL:Np.cW ⟨s.data.toList,ty,life,d⟩ with
   | false=>
    have HX:Hid (r=false):=jq (by rw[<-HR.out];exact Np.aF λq=>by have:=q.set;rw[eL] at this;cases this);clear eL;go_wp2_with fail;go_ret;exact⟨ae HX.out.symm,aj.out⟩
   | true=>
    have jl:=jq eL;clear eL;by_cases h6:ty=6
    ·by_cases lO:s.data.toList = [46]
     ·have Fm:(s.toList == [46])=true:=by rw[dQ,lO];rfl
      have xM:(ty == 6)=true:=by simpa using h6
      have Dc:=jq lO;have H6:=jq h6;clear lO h6;by_cases bl:1<=n
      ·have g1:decide ((1:Int)<=(n:Int))=true:=by simp;omega
       by_cases vg:n<=8
       ·have HX:Hid (r=true):=jq (by rw[<-HR.out];exact Np.bB ⟨jl.out,H6.out,Dc.out,by rw[HN.out];exact⟨bl,vg⟩,nT.out⟩);have g2:decide ((n:Int)<=8)=true:=by simp;omega
        clear bl vg;go_wp2_with fail;go_ret;exact⟨ae HX.out.symm,aj.out⟩
       ·have HX:Hid (r=false):=jq (by rw[<-HR.out];exact Np.aF λq=>by have:=q.few;rw[HN.out] at this;omega);have g2:decide ((n:Int)<=8)=false:=by simp;omega
        clear bl vg;go_wp2_with fail;go_ret;exact⟨ae HX.out.symm,aj.out⟩
      ·have HX:Hid (r=false):=jq (by rw[<-HR.out];exact Np.aF λq=>by have:=q.few;rw[HN.out] at this;omega);have g1:decide ((1:Int)<=(n:Int))=false:=by simp;omega
       clear bl;go_wp2_with fail;go_ret;exact⟨ae HX.out.symm,aj.out⟩
     ·have HX:Hid (r=false):=jq (by rw[<-HR.out];exact Np.aF λq=>lO q.name);have Fm:(s.toList == [46])=false:=by rw[dQ];simpa using lO
      have xM:(ty == 6)=true:=by simpa using h6
      clear lO h6;go_wp2_with fail;go_ret;exact⟨ae HX.out.symm,aj.out⟩
    ·have HX:Hid (r=false):=jq (by rw[<-HR.out];exact Np.aF λq=>h6 q.type);have xM:(ty == 6)=false:=by simpa using h6
     clear h6;go_wp2_with fail;go_ret;exact⟨ae HX.out.symm,aj.out⟩
theorem X8(v:Value)(l:List Np.Host)(w:World)(hd:SlR iG 3 w w.heap.size v l) :
 Calls prog 87 #[v] w λe w'=>e = .returned (.bool (Np.yes (Np.VHosts l)))/\Below w.heap.size w w':=by
 obtain⟨r,hr⟩:∃ r,Np.yes (Np.VHosts l)=r:=⟨_,rfl⟩;rw[hr];have HR:=jq hr;have HD:=jq hd;obtain⟨A,c,rfl,bw,bT⟩:=al hd;clear hr hd;by_cases sV:l.length<=64
 ·have CS:=jq sV;go_enter func87,ntmps87;go_wp2_with fail;go_loopw [3] (λi wr=>∃ k:Nat,k<=l.length/\i = .int .i64 k/\Hid (Below w.heap.size w wr)/\Hid (∀ j x,j<k->l[j]?=some x->Np.HostOk x)/\Hid (((l.take k).map (·.addr)).Nodup)) (λi _=>l.length - (intOf i).toNat)
  case atStart=>exact⟨0,jQ _,rfl,jq (vQ _ _),jq (λj x hj=>by omega),jq (by simp)⟩
  case round=>
   obtain⟨k,hk,rfl,HB,HA,wL⟩:=hrel;have cZ:=HB.out.size;by_cases aa:k<l.length
   ·obtain⟨x,ab⟩:∃ x,l[k]?=some x:=⟨_,aQ aa⟩;obtain⟨b,o,sn,rfl,bJ,ay,cw,f0,f1,f2⟩:=yL (HD.out.keep mI HB.out) ab;have ht:l.take (k+1)=l.take k ++ [x]:=by
     obtain⟨hl,he⟩:=cQ.1 ab;rw[fQ hl,he]
    have HT:=jq ht;have HN:Hid (Np.HostOk x->∀ j y,j<k+1->l[j]?=some y->Np.HostOk y):=jq (λh j y hj hy=>by
     by_cases e:j=k
     ·subst e;rw[ab] at hy;cases hy;exact h
     ·exact HA.out j y (by omega) hy)
    have HF:Hid (¬ Np.HostOk x->r=false):=jq (λh=>by rw[<-HR.out];exact Np.aF λq=>h (q.each x (gQ ab)));have rY:Hid (x.addr∈(l.take k).map (·.addr)->r=false):=jq (λh=>by
     rw[<-HR.out];refine Np.aF λq=>?_;have h1:=q.addrs;have h2:(l.take (k+1)).map (·.addr) <+: l.map (·.addr):=by rw[List.map_take];exact List.take_prefix _ _
     have h3:=h1.sublist h2.sublist;rw[ht,List.map_append,List.nodup_append] at h3;exact h3.2.2 x.addr h x.addr (by simp) rfl)
    have aL:=jq ay;have eW:Hid (∀ o,Below wr.heap.size wr (wr.alloc o)):=jq (λo=>(vQ _ _).alloc (bQ _) _);obtain⟨w2,ai⟩:∃ w2,wr.alloc (.cells #[.string sn,.int .i64 x.addr,.int .i64 x.owner] 101)=w2:=⟨_,rfl⟩;have ac:Below wr.heap.size wr w2:=by rw[<-ai];exact eW.out _
    have p0:w2.cell? ⟨wr.heap.size,0,none⟩=some (.string sn):=by rw[<-ai];simp[go_sem]
    have p1:w2.cell? ⟨wr.heap.size,1,none⟩=some (.int .i64 x.addr):=by rw[<-ai];simp[go_sem]
    have p2:w2.cell? ⟨wr.heap.size,2,none⟩=some (.int .i64 x.owner):=by rw[<-ai];simp[go_sem]
    have aJ:wr.heap.size<w2.heap.size:=by rw[<-ai];simp
    have aj:=jq ac;have bO:(0:Int)<=(k:Int):=by omega
    have bM:(k:Int)<(l.length:Int):=by omega
    clear ab ay ht ac;go_wp2_with fail;clear ai f0 f1 f2;refine (tR sn cw _).mono ?_;rintro e w3 ⟨rfl,ak⟩;have el:=ak.size;have ar:=jq (aj.out.trans (ak.mono (by omega)));replace p0:w3.cell? ⟨wr.heap.size,0,none⟩=some (.string sn):=(ak.cell (by simpa using aJ)).trans p0;replace p1:w3.cell? ⟨wr.heap.size,1,none⟩=some (.int .i64 x.addr):=(ak.cell (by simpa using aJ)).trans p1;replace p2:w3.cell? ⟨wr.heap.size,2,none⟩=some (.int .i64 x.owner):=(ak.cell (by simpa using aJ)).trans p2;clear ak
    cases kc:Np.aC sn.data.toList with
    | false=>
     have HX:Hid (r=false):=jq (HF.out λh=>by have:=h.name;rw[<-aL.out,kc] at this;cases this);clear kc;go_wp2_with fail;go_ret;exact⟨ae HX.out.symm,HB.out.trans (ar.out.mono (by omega))⟩
    | true=>
     have gi:=jq kc;clear kc;go_wp2_with fail;refine (Ng sn gi.out _).mono ?_;rintro e w4 ⟨rfl,av⟩;have em:=av.size;have ba:=jq (ar.out.trans (av.mono (by omega)));replace p1:w4.cell? ⟨wr.heap.size,1,none⟩=some (.int .i64 x.addr):=(av.cell (by dsimp only;omega)).trans p1;replace p2:w4.cell? ⟨wr.heap.size,2,none⟩=some (.int .i64 x.owner):=(av.cell (by dsimp only;omega)).trans p2;clear av p0
     cases p8:Np.dL sn.data.toList with
     | true=>
      have HX:Hid (r=false):=jq (HF.out λh=>by have:=h.wild;rw[<-aL.out,p8] at this;cases this);clear p8;go_wp2_with fail;go_ret;exact⟨ae HX.out.symm,HB.out.trans (ba.out.mono (by omega))⟩
     | false=>
      have Ea:=jq p8;clear p8;have pz:decide (x.addr<1)=true\/decide (x.addr<1)=false/\(decide (1000000<x.addr)=true\/decide (1000000<x.addr)=false/\(decide (x.owner<0)=true\/decide (x.owner<0)=false/\(decide (31<x.owner)=true\/decide (31<x.owner)=false))):=by
       simp only[Qa,decide_eq_false_iff_not];omega
      rcases pz with d1 | ⟨d1,d2 | ⟨d2,d3 | ⟨d3,d4 | d4⟩⟩⟩
      rotate_right
      ·have bk:Hid (Np.HostOk x):=jq (by
        simp only[decide_eq_false_iff_not] at d1 d2 d3 d4;exact⟨by rw[<-aL.out];exact gi.out,by rw[<-aL.out];exact Ea.out,by omega,by omega⟩)
       go_wp2_with fail;obtain⟨wo,rfl⟩:∃ wo,wo=wr:=⟨_,rfl⟩;go_loopw [6] (λi wx=>∃ m:Nat,m<=k/\i = .int .i64 m/\Hid (Below w4.heap.size w4 wx)/\Hid (∀ j y,j<m->l[j]?=some y->y.addr≠x.addr)) (λi _=>k - (intOf i).toNat)
       case atStart=>exact⟨0,jQ _,rfl,jq (vQ _ _),jq (λj y hj=>by omega)⟩
       case round=>
        obtain⟨m,hm,rfl,gq,HX⟩:=hrel;have hzx:=gq.out.size;have q1:wr.cell? ⟨wo.heap.size,1,none⟩=some (.int .i64 x.addr):=(gq.out.cell (by dsimp only;omega)).trans p1;have aP:Hid (Below wo.heap.size wo wr):=jq (ba.out.trans (gq.out.mono (by omega)));by_cases rj:m<k
        ·obtain⟨y,eH⟩:∃ y,l[m]?=some y:=⟨_,aQ (by omega)⟩;obtain⟨b9,o9,sy,J8,_,_,_,_,g1,_⟩:=yL (HD.out.keep mI (HB.out.trans (aP.out.mono (by omega)))) eH;simp only[Option.some.injEq,Addr.mk.injEq,and_true] at J8;obtain⟨rfl,rfl⟩:=J8;have jC:(0:Int)<=(m:Int):=by omega
         have K3:(m:Int)<(l.length:Int):=by omega
         have fC:decide ((m:Int)<(k:Int))=true:=by simp;omega
         by_cases he:y.addr=x.addr
         ·have HY:Hid (r=false):=jq (rY.out (List.mem_map.2 ⟨y,List.mem_iff_getElem?.2 ⟨m,by rw[List.getElem?_take,Qb rj];exact eH⟩,he⟩));have ge:(y.addr == x.addr)=true:=by simpa using he
          clear he eH;go_wp2_with fail;go_quiet (fail);go_wp2_with fail;go_ret;exact⟨ae HY.out.symm,below_drewN (HB.out.trans (aP.out.mono (by omega))) _⟩
         ·have HY:Hid (∀ j z,j<m+1->l[j]?=some z->z.addr≠x.addr):=jq (λj z hj hz=>by
           by_cases e:j=m
           ·subst e;rw[eH] at hz;cases hz;exact he
           ·exact HX.out j z (by omega) hz)
          have ge:(y.addr == x.addr)=false:=by simpa using he
          clear he eH;go_wp2_with fail;go_quiet (fail);go_wp2_with fail;go_roundw
          case rel=>exact⟨m+1,by omega,by go_num,jq (below_drewN gq.out _),HY⟩
          case measure=>simp[intOf] <;> omega
        ·have fC:decide ((m:Int)<(k:Int))=false:=by simp;omega
         have DI:Hid (((l.take (k+1)).map (·.addr)).Nodup):=jq (by
          rw[HT.out,List.map_append,List.nodup_append];refine⟨wL.out,by simp,λy hy z hz e=>?_⟩;simp at hz;obtain⟨u,hu,vr⟩:=List.mem_map.1 hy;obtain⟨j,hj,rfl⟩:=nQ.1 hu;rw[List.length_take] at hj;rw[List.getElem_take] at vr;exact HX.out j _ (by omega) (aQ (by omega)) (by rw[vr,e,hz]))
         go_wp2_with fail;go_roundw
         case rel=>exact⟨k+1,by omega,by go_num,jq (HB.out.trans (aP.out.mono (by omega))),jq (HN.out bk.out),DI⟩
         case measure=>simp[intOf] <;> omega
      all_goals
       have HX:Hid (r=false):=jq (HF.out λh=>by
        have h1:=h.addr;have h2:=h.owner;simp only[Qa,decide_eq_false_iff_not] at *;omega)
       go_wp2_with fail;go_ret;exact⟨ae HX.out.symm,HB.out.trans (ba.out.mono (by omega))⟩
   ·go_wp2_with fail;go_ret;refine⟨ae ?_,HB.out⟩;rw[<-HR.out];refine (Np.bB ⟨CS.out,λx hx=>?_,?_⟩).symm
    ·obtain⟨j,hj,rfl⟩:=nQ.1 hx;exact HA.out j _ (by omega) (aQ hj)
    ·have:=wL.out
     rwa [kQ (by omega)] at this
 ·have HX:Hid (r=false):=jq (by rw[<-HR.out];exact Np.aF λq=>sV q.few);have SS:64<l.length:=by omega
  clear sV;go_enter func87,ntmps87;go_wp2_with fail;go_ret;exact⟨ae HX.out.symm,vQ _ _⟩
theorem NK{α:Type}{R:World->Nat->List Value->α->Prop}{sz n c:Nat}{w:World}{B:Nat}{xs:List α}(h:SlR R sz w B (.slice none n c) xs):n=0/\xs = []:=by
 obtain⟨A',c',hA',_,_,bK⟩:=h;simp only[Value.slice.injEq] at hA';obtain⟨rfl,rfl,rfl⟩:=hA'
 cases xs with
 | nil=>exact⟨rfl,rfl⟩
 | cons x xs=>
  obtain⟨b,o,e,hA,_⟩:=bK 0 x rfl
  cases hA
theorem Tryz.infoCloneDatum:(prog.info? 128).map (λi=>(i.zero,i.size,i.bytes))=some (some (.agg #[.string ⟨#[]⟩,.int .i64 0,.int .i64 0]),3,32):=by kernel_rfl
theorem RB(v:Value)(xs:List Np.Datum)(hl:xs.length<=1000000)(w:World)(h:SlR bn 3 w w.heap.size v xs) :
 Calls prog 68 #[v] w λe w'=>∃ v',e = .returned v'/\bL bn 3 128 w.heap.size w.heap.size w' v' xs/\Below w.heap.size w w':=by
 have HD:=jq h;obtain⟨A,c,rfl,bw,bT⟩:=al h;clear h;have heq:=run_eql_slice_nil (P:=prog) w 24 128 A xs.length c underlying24;have aZ:Hid (Below w.heap.size w (w.alloc (.cells #[] 128))):=jq ((vQ _ _).alloc (bQ _) _);obtain⟨i0,hi,eM,bj,aJ⟩:=info_parts Tryz.infoCloneDatum
 cases A with
 | none=>
  obtain⟨hn,rfl⟩:=NK HD.out;rw[List.length_nil] at heq |-;simp only[Option.isNone_none] at heq;go_enter func68,ntmps68;go_wp2_with fail;go_ret;exact⟨_,rfl,bL.nil _,vQ _ _⟩
 | some ad=>
  go_enter func68,ntmps68;go_wp2_with (at_builtin;refine Oo (R:=bn) (sz:=3) _ rfl _ _ 24 rfl w.heap.size w.heap.size 128 i0 (.agg #[.string ⟨#[]⟩,.int .i64 0,.int .i64 0]) 32 underlying24 hi eM bj aJ rfl (by decide) _ [] rfl (bL.empty w (bQ _)) (some ad) c w.heap.size xs rfl (HD.out.keep de aZ.out) (λr y h=>by (obtain⟨s,_,_,rfl⟩:=h;intro u hu;simp at hu;try rcases hu with rfl | rfl | rfl | rfl | rfl | rfl <;> rfl)) (by simp[maxLen];omega) (by simp;omega) (by simp) (bQ _) (bQ _) de eN ?_;intro v3 w3 nH ak uX;have H3:=jq (And.intro nH (aZ.out.trans ak));clear nH ak uX);go_ret;exact⟨_,rfl,H3.out.1,H3.out.2⟩
theorem Tryz.infoCloneSig:(prog.info? 50).map (λi=>(i.zero,i.size,i.bytes))=some (some (.agg #[.string ⟨#[]⟩,.int .i64 0,.int .i64 0,.int .i64 0,.int .i64 0,.int .u64 0]),6,56):=by kernel_rfl
theorem RC(v:Value)(xs:List Np.Sig)(hl:xs.length<=1000000)(w:World)(h:SlR dj 6 w w.heap.size v xs) :
 Calls prog 142 #[v] w λe w'=>∃ v',e = .returned v'/\bL dj 6 50 w.heap.size w.heap.size w' v' xs/\Below w.heap.size w w':=by
 have HD:=jq h;obtain⟨A,c,rfl,bw,bT⟩:=al h;clear h;have heq:=run_eql_slice_nil (P:=prog) w 40 50 A xs.length c underlying40;have aZ:Hid (Below w.heap.size w (w.alloc (.cells #[] 50))):=jq ((vQ _ _).alloc (bQ _) _);obtain⟨i0,hi,eM,bj,aJ⟩:=info_parts Tryz.infoCloneSig
 cases A with
 | none=>
  obtain⟨hn,rfl⟩:=NK HD.out;rw[List.length_nil] at heq |-;simp only[Option.isNone_none] at heq;go_enter func142,ntmps142;go_wp2_with fail;go_ret;exact⟨_,rfl,bL.nil _,vQ _ _⟩
 | some ad=>
  go_enter func142,ntmps142;go_wp2_with (at_builtin;refine Oo (R:=dj) (sz:=6) _ rfl _ _ 40 rfl w.heap.size w.heap.size 50 i0 (.agg #[.string ⟨#[]⟩,.int .i64 0,.int .i64 0,.int .i64 0,.int .i64 0,.int .u64 0]) 56 underlying40 hi eM bj aJ rfl (by decide) _ [] rfl (bL.empty w (bQ _)) (some ad) c w.heap.size xs rfl (HD.out.keep ep aZ.out) (λr y h=>by (obtain⟨s,_,_,rfl⟩:=h;intro u hu;simp at hu;try rcases hu with rfl | rfl | rfl | rfl | rfl | rfl <;> rfl)) (by simp[maxLen];omega) (by simp;omega) (by simp) (bQ _) (bQ _) ep gp ?_;intro v3 w3 nH ak uX;have H3:=jq (And.intro nH (aZ.out.trans ak));clear nH ak uX);go_ret;exact⟨_,rfl,H3.out.1,H3.out.2⟩
end
end Go.Proofs.YtfnopgdcaanaiaaGreatDoor
