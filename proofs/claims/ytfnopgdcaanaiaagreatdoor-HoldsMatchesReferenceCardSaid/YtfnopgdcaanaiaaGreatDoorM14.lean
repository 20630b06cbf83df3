/- Parts of the proof. No condition. -/
import Derived.Test.YtfnopgdcaanaiaaGreatDoorM07
import Derived.Test.YtfnopgdcaanaiaaGreatDoorM10
import Derived.Test.YtfnopgdcaanaiaaGreatDoorM12
import Derived.Test.YtfnopgdcaanaiaaGreatDoorM13
set_option linter.all false
set_option maxRecDepth 100000
set_option maxHeartbeats 8000000
namespace Go.Proofs.YtfnopgdcaanaiaaGreatDoor
open Go.Proofs.Tryz
section
open Go.RowKit
theorem aTQ{z:Np.Zone}(bW:z.sets.length<=20000):Np.VZone z↔(((((Np.fK z=true/\Np.ApexH z.apex z.sets)/\Np.zV z.sets)/\Np.qB z.sets (Np.eM z))/\Np.Bm z.sets (Np.eM z))/\∀ x∈z.sets,Np.eK z.apex x.sigs):=by
 constructor
 ·intro h;refine⟨⟨⟨⟨⟨h.right,h.start,h.server,h.fits⟩,λk x hx ht=>⟨λp h0 hp he=>?_,λn hn he=>?_⟩⟩,h.cuts⟩,h.sigs⟩,h.form⟩
  ·obtain⟨hk,rfl⟩:=cQ.1 hx;obtain⟨bI,rfl⟩:=cQ.1 hp;obtain⟨m,rfl⟩:∃ m,k=m+1:=⟨k - 1,by omega⟩;exact h.aliasBefore m hk ht he
  ·obtain⟨hk,rfl⟩:=cQ.1 hx;obtain⟨bI,rfl⟩:=cQ.1 hn;exact h.aliasBehind k bI ht he
 ·rintro⟨⟨⟨⟨⟨h1,h2⟩,h3⟩,h4⟩,h5⟩,h6⟩;refine⟨h1,bW,h2.start,h2.server,h2.fits,λi hi ht he=>?_,λi hi ht he=>?_,h4,h5,h6⟩
  ·exact (h3 (i+1) _ (aQ hi) ht).1 _ (by omega) (aQ (by omega)) he
  ·exact (h3 i _ (aQ (by omega)) ht).2 _ (aQ hi) he
theorem tz{P:Prop}(h:Np.yes P=false):¬ P:=λhp=>by rw[Np.bh hp] at h;cases h
theorem Tj(a:ByteArray)(ha:a.size<=140737488355328)(v:Value)(l:List Np.Signed)(bW:l.length<=20000)(w:World)(hR:jo w w.heap.size)(hd:SlR bO 5 w w.heap.size v l) :
 Calls prog 120 #[.agg #[.string a,v]] w (a0X w.heap.size w (.bool (Np.yes (Np.VZone ⟨a.data.toList,l⟩)))):=by
 obtain⟨r,hr⟩:=acJ (Np.yes (Np.VZone ⟨a.data.toList,l⟩));rw[hr];have HR:Hid (Np.yes (((((Np.fK ⟨a.data.toList,l⟩=true/\Np.ApexH a.data.toList l)/\Np.zV l)/\Np.qB l (Np.eM ⟨a.data.toList,l⟩))/\Np.Bm l (Np.eM ⟨a.data.toList,l⟩))/\∀ x∈l,Np.eK a.data.toList x.sigs)=r):=jq (by
  rw[<-hr];exact (Np.ve (aTQ (z:=⟨a.data.toList,l⟩) bW)).symm)
 have HD:=jq hd;have gz:=jq hR;obtain⟨A,c,rfl,bq,bM⟩:=ak hd;clear hr hd hR;have HW:Hid (∀ o o',Below w.heap.size w ((w.alloc o).alloc o')):=jq (λo o'=>((vQ _ w).alloc (bQ _) _).alloc (by simp) _);go_enter func120,ntmps120;go_wp2_with fail;obtain⟨w1,ah⟩:=acJ ((w.alloc (.cells #[.string a,.slice A l.length c] 44)).alloc (.cells #[.string a,.slice A l.length c] 263));have c0:w1.cell? ⟨w.heap.size+1,0,none⟩=some (.string a):=by rw[<-ah];simp[go_sem]
 have c1:w1.cell? ⟨w.heap.size+1,1,none⟩=some (.slice A l.length c):=by rw[<-ah];simp[go_sem]
 have bd:w1.heap.size=w.heap.size+2:=by rw[<-ah];simp
 have av:Hid (Below w.heap.size w w1):=jq (by rw[<-ah];exact HW.out _ _);rw[ah];clear ah;refine (aXY a ha _ l bW _ ((gz.out.keep av.out).more (by omega)) (HD.out.later bj cC av.out)).mono ?_;rintro e w2 ⟨rfl,ac⟩;have aN:=ac.size;have ai:=acZ av ac;have d0:w2.cell? ⟨w.heap.size+1,0,none⟩=some (.string a):=aaJ ac c0;have d1:w2.cell? ⟨w.heap.size+1,1,none⟩=some (.slice A l.length c):=aaJ ac c1;clear ac c0 c1
 cases fy:Np.fK ⟨a.data.toList,l⟩ with
 | false=>
  have HX:Hid (r=false):=jq (by rw[<-HR.out];exact Np.aF λh=>by rw[fy] at h;cases h.1.1.1.1.1);clear fy;go_wp2_with fail;go_ret;exact⟨ag HX.out.symm,ai.out⟩
 | true=>
  have ja:=jq fy;have ho:=Np.VZone.inOrder fy;have HS:=jq (aMQ ho);have rB:=fy;unfold Np.fK at rB;simp only[Bool.and_eq_true] at rB;have NA:=jq rB.1.1;have HV:Hid (∀ x∈l,Np.aD x.set.name=true):=jq (λx hx=>F4 (Np.Eg rB.2 x hx));clear fy rB ho;go_wp2_with fail;refine (VJ a ha NA.out _ l bW HV.out HS.out _ (HD.out.later bj cC ai.out)).mono ?_;rintro e w3 ⟨rfl,aq⟩;have eR:=aq.size;have ar:=acZ ai aq;replace d0:=aaJ aq d0;replace d1:=aaJ aq d1;clear aq
  cases sF:Np.yes (Np.ApexH a.data.toList l) with
  | false=>
   have HX:Hid (r=false):=jq (by rw[<-HR.out];exact Np.aF λh=>tz sF h.1.1.1.1.2);clear sF;go_wp2_with fail;go_ret;exact⟨ag HX.out.symm,ar.out⟩
  | true=>
   have oy:=jq (Np.fq.1 sF);clear sF;go_wp2_with fail;refine (akQ a _ l bW HV.out HS.out _ (HD.out.later bj cC ar.out)).mono ?_;rintro e w4 ⟨⟨bv,rfl,iP⟩,aC⟩;have fl:=aC.size;have aU:=acZ ar aC;obtain⟨A2,c2,rfl,fI,eU⟩:=ak iP;have bB:(Np.eM ⟨a.data.toList,l⟩).length=l.length:=Np.tW _;rw[bB] at fI eU iP |-;clear bB;have TG:=jq iP;clear aC iP d0 d1;go_wp2_with fail;obtain⟨w5,aX⟩:=acJ (w4.alloc (.cells #[.string a,.slice A l.length c,.slice A2 l.length c2] 265));have g0:w5.cell? ⟨w4.heap.size,0,none⟩=some (.string a):=by rw[<-aX];simp[go_sem]
   have g1:w5.cell? ⟨w4.heap.size,1,none⟩=some (.slice A l.length c):=by rw[<-aX];simp[go_sem]
   have g2:w5.cell? ⟨w4.heap.size,2,none⟩=some (.slice A2 l.length c2):=by rw[<-aX];simp[go_sem]
   have ik:w5.heap.size=w4.heap.size+1:=by rw[<-aX];simp
   have qE:Hid (Below w4.heap.size w4 w5):=jq (by rw[<-aX];exact (vQ _ _).alloc (bQ _) _);have bN:Hid (Below w.heap.size w w5):=acZ aU qE.out;have qL:Hid (∀ wx,Below w.heap.size w wx->w.heap.size<=wx.heap.size->SlR bO 5 wx wx.heap.size (.slice A l.length c) l):=jq (λwx hb _=>HD.out.later bj cC hb);have Mu:Hid (∀ wx,Below w4.heap.size w4 wx->SlR RTx 1 wx wx.heap.size (.slice A2 l.length c2) (Np.eM ⟨a.data.toList,l⟩)):=jq (λwx hb=>TG.out.later mY Le hb);have HL:Hid ((Np.eM ⟨a.data.toList,l⟩).length=l.length):=jq (Np.tW _);rw[aX];clear aX;refine (Vy a _ A2 l.length c2 l bW _ (qL.out _ bN.out bN.out.size)).mono ?_;rintro e w6 ⟨rfl,aW⟩;have iy:=aW.size;have dl:=acZ bN aW;have tB:=acZ qE aW;replace g0:=aaJ aW g0;replace g1:=aaJ aW g1;replace g2:=aaJ aW g2;clear aW
   cases sY:Np.yes (Np.zV l) with
   | false=>
    have HX:Hid (r=false):=jq (by rw[<-HR.out];exact Np.aF λh=>tz sY h.1.1.1.2);clear sY;go_wp2_with fail;go_ret;exact⟨ag HX.out.symm,dl.out⟩
   | true=>
    have Hy:=jq (Np.fq.1 sY);clear sY;go_wp2_with fail;refine (WQ a _ _ l _ HL.out _ (qL.out _ dl.out dl.out.size) (Mu.out _ tB.out)).mono ?_;rintro e w7 ⟨rfl,dO⟩;have mR:=dO.size;have cD:=acZ dl dO;have Ts:=acZ tB dO;replace g0:=aaJ dO g0;replace g1:=aaJ dO g1;replace g2:=aaJ dO g2;clear dO
    cases Cx:Np.yes (Np.qB l (Np.eM ⟨a.data.toList,l⟩)) with
    | false=>
     have HX:Hid (r=false):=jq (by rw[<-HR.out];exact Np.aF λh=>tz Cx h.1.1.2);clear Cx;go_wp2_with fail;go_ret;exact⟨ag HX.out.symm,cD.out⟩
    | true=>
     have UO:=jq (Np.fq.1 Cx);clear Cx;go_wp2_with fail;refine (aLQ a _ _ l _ HL.out _ (qL.out _ cD.out cD.out.size) (Mu.out _ Ts.out)).mono ?_;rintro e w8 ⟨rfl,cL⟩;have n7:=cL.size;have eF:=acZ cD cL;replace g0:=aaJ cL g0;replace g1:=aaJ cL g1;replace g2:=aaJ cL g2;clear cL
     cases xq:Np.yes (Np.Bm l (Np.eM ⟨a.data.toList,l⟩)) with
     | false=>
      have HX:Hid (r=false):=jq (by rw[<-HR.out];exact Np.aF λh=>tz xq h.1.2);clear xq;go_wp2_with fail;go_ret;exact⟨ag HX.out.symm,eF.out⟩
     | true=>
      have DG:=jq (Np.fq.1 xq);clear xq;go_wp2_with fail;refine (Xx a _ A2 l.length c2 l _ (qL.out _ eF.out eF.out.size)).mono ?_;rintro e w9 ⟨rfl,jf⟩;have qv:=jf.size;have cR:=acZ eF jf;replace g0:=aaJ jf g0;replace g1:=aaJ jf g1;replace g2:=aaJ jf g2;clear jf
      cases aR:Np.yes (∀ x∈l,Np.eK a.data.toList x.sigs) with
      | false=>
       have HX:Hid (r=false):=jq (by rw[<-HR.out];exact Np.aF λh=>tz aR h.2);clear aR;go_wp2_with fail;go_ret;exact⟨ag HX.out.symm,cR.out⟩
      | true=>
       have UP:=jq (Np.fq.1 aR);clear aR;go_wp2_with fail;go_ret;exact⟨ag (by rw[<-HR.out];exact (Np.bh ⟨⟨⟨⟨⟨ja.out,oy.out⟩,Hy.out⟩,UO.out⟩,DG.out⟩,UP.out⟩).symm),cR.out⟩
end
section
open Go.RowKit Go.MapKept
def vZ(W:World)(B:Nat)(e:List Value)(p:Np.Placed):Prop:=∃ (s:ByteArray) (v:Value),s.data.toList=p.zone.apex/\s.size<=140737488355328/\SlR bO 5 W B v p.zone.sets/\e = [.int .i64 p.host,.string s,v]
theorem FN:ep vZ:=λ_ _ _ _ _ ⟨s,v,h1,h2,h3,h5⟩ hb=>⟨s,v,h1,h2,h3.keep bj hb,h5⟩
theorem Ld:eL vZ:=λ_ _ _ _ _ ⟨s,v,h1,h2,h3,h5⟩ hb=>⟨s,v,h1,h2,h3.more cC hb,h5⟩
theorem arX{w:World}{B n c:Nat}{A:Option Addr}{xs:List Np.Placed}(h:SlR vZ 3 w B (.slice A n c) xs){k:Nat}{x:Np.Placed}(hx:xs[k]?=some x):∃ (b o:Nat) (s:ByteArray) (v:Value),A=some ⟨b,o,none⟩/\b<B/\s.data.toList=x.zone.apex/\s.size<=140737488355328/\SlR bO 5 w B v x.zone.sets/\w.cell? ⟨b,o+k * 3,none⟩=some (.int .i64 x.host)/\w.cell? ⟨b,o+k * 3+1,none⟩=some (.string s)/\w.cell? ⟨b,o+k * 3+2,none⟩=some v:=by
 obtain⟨A',c',hA',_,_,bU⟩:=h
 cases hA'
 obtain⟨b,o,e,hA,bB,hlen,hce,s,v,h1,h2,h3,he⟩:=bU k _ hx;subst he;exact⟨b,o,s,v,hA,bB,h1,h2,h3,hce 0 _ rfl,hce 1 _ rfl,hce 2 _ rfl⟩
def kR(r n:Nat)(w:World):Prop:=∃ es c kvs,w.heap[r]?=some (.map es c)/\es.toList.map (λe=>(e.key,e.val))=(kvs:List (List UInt8×Value)).map (λp=>(aA p.1,p.2))/\es.size<=n
theorem kR.lt{r n:Nat}{w:World}(h:kR r n w):r<w.heap.size:=by
 obtain⟨es,c,kvs,h,_⟩:=h;exact (eQ.1 h).1
theorem kR.keep{r k:Nat}{w w':World}{n:Nat}(h:kR r k w)(hb:Below n w w')(hn:r<n):kR r k w':=by
 obtain⟨es,c,kvs,h,h2⟩:=h;exact⟨es,c,kvs,(hb.block r hn).trans h,h2⟩
theorem kR.turned{r k r':Nat}{w w':World}(h:kR r k w)(ht:Turned r' w w')(hne:r≠r'):kR r k w':=by
 obtain⟨es,c,kvs,h,h2⟩:=h;exact⟨es,c,kvs,(ht.block r hne).trans h,h2⟩
theorem kR.made(w:World):kR w.heap.size 0 (w.alloc (.map #[] 0)):=⟨#[],0,[],heap_alloc_new _ _,rfl,bQ _⟩
theorem Xo(x:List UInt8):∀ (es:List MapEntry) (kvs:List (List UInt8×Value)) (i:Nat),es.map (λe=>(e.key,e.val))=kvs.map (λp=>(aA p.1,p.2))->
 (∃ j e,es[j]?=some e/\e.key=aA x/\Instr.findNow .string (aA x) es i=some (some (i+j,e.val)))\/Instr.findNow .string (aA x) es i=some none:=by
 intro es
 induction es with
 | nil=>
  intro kvs i h;exact .inr rfl
 | cons e es ih=>
  intro kvs i h
  cases kvs with
  | nil=>simp at h
  | cons p kvs=>
   obtain⟨y,u⟩:=p;simp only[List.map_cons,List.cons.injEq,Prod.mk.injEq] at h;obtain⟨⟨h1,h2⟩,h3⟩:=h;have hs:Instr.sameNow .string (aA x) e.key=some (x == y):=by rw[h1];simp only[Instr.sameNow];rw[SD]
   by_cases dM:x=y
   ·subst dM;have hb:(x == x)=true:=by simp
    rw[hb] at hs;exact .inl ⟨0,e,rfl,h1,by simp only[Instr.findNow,hs];rfl⟩
   ·have hb:(x == y)=false:=by simpa using dM
    rw[hb] at hs;rcases ih kvs (i+1) h3 with ⟨j,e',j1,j2,j3⟩ | h4
    ·exact .inl ⟨j+1,e',by simpa using j1,j2,by simp only[Instr.findNow,hs];rw[j3,show i+1+j=i+(j+1) by omega]⟩
    ·exact .inr (by simp only[Instr.findNow,hs];exact h4)
theorem agJ(a:ByteArray)(P:Program)(w:World):(Instr.keyThatStays (.string a) (.string a)).run P w = .ok (.string a) w:=by
 have h1:(a == a)=true:=by
  show (a.data == a.data)=true;simp
 have:Instr.sameBits 10000 (.string a) (.string a)=true:=by simp[Instr.sameBits,h1]
 simp[Instr.keyThatStays,this]
section
variable {P:Program} {ops:Array Oper} {rest:List Oper} {o:Oper} {a:Act} {Q:Exit->Act->World->Prop}
theorem aWX(w:World)(hg:o.guard=none)(m x v:Operand)(t:TypeId)(kB:o.op=Op.mapUpdate t m x v)(kt et:TypeId)(ht:P.underlying t=some (.map kt et))(hk:P.underlying kt=some .string)
 (r n:Nat) (hm:a.eval m = .map (some r)) (hr:kR r n w) (key:List UInt8) (hx:a.eval x=aA key) (val:Value) (hv:a.eval v=val)
 (hK:∀ w',kR r (n+1) w'->Turned r w w'->wpList P ops Q rest (a.put o.dst undef) w'):wpList P ops Q (o::rest) a w:=by
 obtain⟨es,c,kvs,hr,he,hn⟩:=hr;refine wpList_plain hg λK' hK'=>?_;have hc:(Instr.checkKey false 10000 kt (aA key)).run P w = .ok () w:=MapKept.run_checkKey (k:=aA key) hk (by simp[MapKept.IsKey]) false 9999;have hl:r<w.heap.size:=(eQ.1 hr).1;rcases Xo key es.toList kvs 0 he with ⟨j,e,j1,j2,hf⟩ | hf
 ·have kA:(Instr.keyThatStays (((es[j]?).map (·.key)).getD (aA key)) (aA key)).run P w = .ok (aA key) w:=by
   rw[Array.getElem?_toList] at j1;rw[j1];simp only[Option.map_some,Option.getD_some];rw[j2];exact agJ _ P w
  rw[Nat.zero_add] at hf;have dS:(Instr.mapUpdate t (.map (some r)) (aA key) val).run P w = .ok () { w with heap:=w.heap.setIfInBounds r (.map (es.modify j λe=>{ e with key:=aA key,val:=val }) c) }:=by
   simp[Instr.mapUpdate,run_underlying ht,MapKept.run_getObj_map hr,hc,MapKept.run_findKey hk hf,kA,MapKept.run_setObj_map _ hr,Result.andThen]
  unfold Oper.wp;simp[execOp,kB,hm,hx,hv,dS,Result.andThen];refine hK' _ _ (hK _ ⟨es.modify j λe=>{ e with key:=aA key,val:=val },c,kvs.modify j λ_=>(key,val),by simp[hl],?_,by simp;omega⟩ ⟨rfl,rfl,rfl,by simp,λi hi=>by simp[Ne.symm hi]⟩);apply List.ext_getElem?;intro i;have hi:=Qd (λl=>l[i]?) he;simp only[List.getElem?_map] at hi |-;rw[Array.toList_modify,List.getElem?_modify,List.getElem?_modify];by_cases dj:j=i
  ·subst dj;simp only[if_true]
   cases h1:es.toList[j]? <;> cases h2:kvs[j]? <;> simp[h1,h2] at hi |-
  ·simp only[Qc dj];simpa using hi
 ·have dS:(Instr.mapUpdate t (.map (some r)) (aA key) val).run P w = .ok () { w with heap:=w.heap.setIfInBounds r (.map (es.push { key:=aA key,val:=val,born:=c }) (c+1)) }:=by
   simp[Instr.mapUpdate,run_underlying ht,MapKept.run_getObj_map hr,hc,MapKept.run_findKey hk hf,MapKept.run_setObj_map _ hr,Result.andThen]
  unfold Oper.wp;simp[execOp,kB,hm,hx,hv,dS,Result.andThen];exact hK' _ _ (hK _ ⟨es.push { key:=aA key,val:=val,born:=c },c+1,kvs ++ [(key,val)],by simp[hl],by simp[he],by simp;omega⟩ ⟨rfl,rfl,rfl,by simp,λi hi=>by simp[Ne.symm hi]⟩)
end
theorem CU{α:Type}[BEq α][LawfulBEq α][DecidableEq α](l:List α)(x:α):((l.map λy=>(y,Value.bool true)).lookup x).getD (.bool false) = .bool (decide (x∈l)):=by
 induction l with
 | nil=>simp
 | cons y l ih=>
  rw[List.map_cons,List.lookup_cons];by_cases h:x=y
  ·subst h;simp
  ·have hb:(x == y)=false:=by simpa using h
   rw[hb];simp only[ih,List.mem_cons,h,false_or]
theorem Fu{α:Type}[BEq α][LawfulBEq α](l:List α)(x:α)(h:x∉l):(l.map λy=>(y,Value.bool true)).lookup x=none:=by
 induction l with
 | nil=>rfl
 | cons y l ih=>
  have hb:(x == y)=false:=by
   rw[beq_eq_false_iff_ne];intro e;exact h (by simp[e])
  rw[List.map_cons,List.lookup_cons,hb];exact ih (λhm=>h (mQ _ hm))
def Np.jy(p:Np.Placed):Int×List UInt8:=(p.host,p.zone.apex)
def Np.DR(n:Nat)(p:Np.Placed):Prop:=(0<=p.host/\p.host<n)/\Np.VZone p.zone
def Np.pW(n:Nat)(l:List Np.Placed):Prop:=(∀ p∈l,Np.DR n p)/\l.Pairwise λp q=>¬ (p.host=q.host/\p.zone.apex=q.zone.apex)
theorem aSZ{n k:Nat}{l:List Np.Placed}{x:Np.Placed}(hx:l[k]?=some x)(h:Np.pW n l):Np.DR n x/\Np.jy x∉(l.take k).map Np.jy:=by
 refine⟨h.1 x (gQ hx),λhm=>?_⟩;obtain⟨y,hy,he⟩:=List.mem_map.1 hm;have h1:(l.take k ++ [x]).Pairwise λp q=>¬ (p.host=q.host/\p.zone.apex=q.zone.apex):=by
  obtain⟨hl,he⟩:=cQ.1 hx
  have:l.take k ++ [x]=l.take (k+1):=by rw[fQ hl,he]
  rw[this];exact h.2.sublist (List.take_sublist _ _)
 have h2:=(List.pairwise_append.1 h1).2.2 y hy x (by simp);unfold Np.jy at he;simp only[Prod.mk.injEq] at he;exact h2 he
theorem aSJ{n k:Nat}{l:List Np.Placed}{x:Np.Placed}(hx:l[k]?=some x)(h:Np.pW n (l.take k))(h1:Np.DR n x)(h2:Np.jy x∉(l.take k).map Np.jy):Np.pW n (l.take (k+1)):=by
 obtain⟨hl,he⟩:=cQ.1 hx;have ht:l.take (k+1)=l.take k ++ [x]:=by rw[fQ hl,he]
 rw[ht];refine⟨λp hp=>?_,List.pairwise_append.2 ⟨h.2,by simp,λy hy z hz Fi=>?_⟩⟩
 ·rcases List.mem_append.1 hp with hp | hp
  ·exact h.1 p hp
  ·rw[List.mem_singleton] at hp;subst hp;exact h1
 ·rw[List.mem_singleton] at hz;subst hz;exact h2 (List.mem_map.2 ⟨y,hy,by unfold Np.jy;simp[Fi.1,Fi.2]⟩)
theorem aRK(hv:Value)(n:Nat)(hn:∃ A c,hv = .slice A n c)(zv:Value)(l:List Np.Placed)(sv:Value)(ty life:Int)(dv dU:Value)(s:ByteArray)(aS:sv = .string s)(hl:l.length<=500)(hz:∀ p∈l,p.zone.sets.length<=20000)(w:World)(hR:jo w w.heap.size)(hd:SlR vZ 3 w w.heap.size zv l) :
 Calls prog 181 #[.agg #[hv,zv,sv,.int .i64 ty,.int .i64 life,dv,dU]] w λe w'=>e = .returned (.bool (Np.yes (Np.pW n l)))/\Below w.heap.size w w':=by
 obtain⟨r,hr⟩:=acJ (Np.yes (Np.pW n l));rw[hr];have HR:=jq hr;have HD:=jq hd;have gz:=jq hR;have HZ:=jq hz;obtain⟨Ah,ch,rfl⟩:=hn;obtain⟨A,c,rfl,bq,bM⟩:=ak hd;subst aS;clear hr hd hR hz;have a9X:∀ (w:World),(Instr.makeMap 299 none).run prog w = .ok (.map (some w.heap.size)) (w.alloc (.map #[] 0)):=λw=>by
  simp[Instr.makeMap,Result.andThen]
 have a9Y:∀ (w:World),(Instr.makeMap 111 none).run prog w = .ok (.map (some w.heap.size)) (w.alloc (.map #[] 0)):=λw=>by
  simp[Instr.makeMap,Result.andThen]
 have ie:decide (4000<(l.length:Int))=false:=adJ;go_enter func181,ntmps181;go_wp2_with fail;obtain⟨w1,ah⟩:=acJ (((w.alloc (.cells #[.slice Ah n ch,.slice A l.length c,.string s,.int .i64 ty,.int .i64 life,dv,dU] 68)).alloc (.map #[] 0)).alloc (.map #[] 0));obtain⟨X,hX⟩:=acJ w.heap.size;obtain⟨X1,l6⟩:=acJ (X+1);obtain⟨X2,Ez⟩:=acJ (X1+1);have vL:Hid (kl X1 [] w1):=jq (by
  rw[<-ah,<-l6,<-hX];have h0:=kl.made (w.alloc (.cells #[.slice Ah n ch,.slice A l.length c,.string s,.int .i64 ty,.int .i64 life,dv,dU] 68));rw[show w.heap.size+1=(w.alloc (.cells #[.slice Ah n ch,.slice A l.length c,.string s,.int .i64 ty,.int .i64 life,dv,dU] 68)).heap.size by simp];exact h0.keep ((vQ _ _).alloc (bQ _) _) (by simp))
 have Ut:Hid (kR X2 0 w1):=jq (by
  rw[<-ah,<-Ez,<-l6,<-hX];have h0:=kR.made ((w.alloc (.cells #[.slice Ah n ch,.slice A l.length c,.string s,.int .i64 ty,.int .i64 life,dv,dU] 68)).alloc (.map #[] 0));simpa using h0)
 have av:Hid (Below X w w1):=jq (by rw[<-ah,<-hX];exact (((vQ _ _).alloc (bQ _) _).alloc (by simp) _).alloc (by simp;omega) _);have TS:Hid (w1.cell? ⟨X,0,none⟩=some (.slice Ah n ch)):=jq (by rw[<-ah,<-hX];simp[go_sem]);have bd:X2<w1.heap.size:=by rw[<-ah,<-Ez,<-l6,<-hX];simp
 rw[ah,hX,l6,Ez];have hlX:X<X1:=by omega
 have a7X:X1<X2:=by omega
 rw[hX] at HD gz;have kN:=jq hX;clear ah l6 Ez;go_loopw [17] (λi wr=>∃ k:Nat,k<=l.length/\i = .int .i64 k/\Hid (Below X w wr)/\X2<wr.heap.size/\Hid (wr.cell? ⟨X,0,none⟩=some (.slice Ah n ch))/\Hid (kl X1 (((l.take k).map Np.jy).map λy=>(y,Value.bool true)) wr)/\Hid (kR X2 k wr)/\Hid (Np.pW n (l.take k))) (λi _=>l.length - (intOf i).toNat)
 case atStart=>exact⟨0,jQ _,rfl,av,bd,TS,vL,Ut,jq ⟨λp hp=>by simp at hp,by simp⟩⟩
 case round=>
  obtain⟨k,hk,rfl,HB,dK,HC,HM,HN,HV⟩:=hrel;have JB:=HC.out;by_cases ab:k<l.length
  ·obtain⟨x,aa⟩:∃ x,l[k]?=some x:=⟨_,aQ ab⟩;obtain⟨b,o,sn,vz,rfl,bA,aw,cB,fJ,f0,f1,f2⟩:=arX (HD.out.keep FN HB.out) aa;have fZ:=jq (aSZ (n:=n) (k:=k) aa);have du:=jq (λh1 h2=>aSJ aa HV.out h1 h2);have HF:Hid (¬ Np.DR n x->r=false):=jq (λh=>by rw[<-HR.out];exact Np.aF λq=>h (fZ.out q).1);have vx:Hid (Np.jy x∈(l.take k).map Np.jy->r=false):=jq (λh=>by rw[<-HR.out];exact Np.aF λq=>(fZ.out q).2 h);have HT:Hid ((l.take (k+1)).map Np.jy=(l.take k).map Np.jy ++ [Np.jy x]):=jq (by
    obtain⟨hl,he⟩:=cQ.1 aa;rw[fQ hl,he,List.map_append];rfl)
   have Be:Hid (x.zone.sets.length<=20000):=jq (HZ.out x (gQ aa));have iY:Hid (Np.jy x=(x.host,sn.data.toList)):=jq (by unfold Np.jy;rw[aw]);obtain⟨Az,cz,rfl,_,_⟩:=ak fJ;obtain⟨nz,ju⟩:=acJ x.zone.sets.length;have aT:=jq aw;rw[ju] at f2;have kk:Hid (SlR bO 5 wr wr.heap.size (.slice Az nz cz) x.zone.sets):=jq (by rw[<-ju];exact fJ.more cC (by have:=HB.out.size;omega));obtain⟨w2,aj⟩:=acJ (wr.alloc (.cells #[.int .i64 x.host,.string sn,.slice Az nz cz] 72));obtain⟨w3,fj⟩:=acJ (w2.alloc (.cells #[.int .i64 x.host,.string sn] 301));have aN:w2.heap.size=wr.heap.size+1:=by rw[<-aj];simp
   have eR:w3.heap.size=w2.heap.size+1:=by rw[<-fj];simp
   have ac:Below wr.heap.size wr w2:=by rw[<-aj];exact (vQ _ _).alloc (bQ _) _
   have aq:Below wr.heap.size wr w3:=by rw[<-fj];exact ac.alloc (by omega) _
   have p0:w2.cell? ⟨wr.heap.size,0,none⟩=some (.int .i64 x.host):=by rw[<-aj];simp[go_sem]
   have p1:w2.cell? ⟨wr.heap.size,1,none⟩=some (.string sn):=by rw[<-aj];simp[go_sem]
   have q0:w3.cell? ⟨wr.heap.size,0,none⟩=some (.int .i64 x.host):=by rw[<-fj,<-p0];simp[go_sem,aN]
   have q1:w3.cell? ⟨wr.heap.size,1,none⟩=some (.string sn):=by rw[<-fj,<-p1];simp[go_sem,aN]
   have q2:w3.cell? ⟨wr.heap.size,2,none⟩=some (.slice Az nz cz):=by rw[<-fj,<-aj];simp[go_sem]
   have r0:w3.cell? ⟨wr.heap.size+1,0,none⟩=some (.int .i64 x.host):=by rw[<-fj,<-aN];simp[go_sem]
   have r1:w3.cell? ⟨wr.heap.size+1,1,none⟩=some (.string sn):=by rw[<-fj,<-aN];simp[go_sem]
   have Ph:w3.cell? ⟨X,0,none⟩=some (.slice Ah n ch):=aaJ aq JB;have ar:=acZ HB aq;have oH:Hid (kl X1 (((l.take k).map Np.jy).map λy=>(y,Value.bool true)) w3):=jq (HM.out.keep aq (by omega));have DA:Hid (kR X2 k w3):=jq (HN.out.keep aq dK);have lA:Hid (SlR bO 5 w3 w3.heap.size (.slice Az nz cz) x.zone.sets):=jq ((kk.out.keep bj aq).more cC aq.size);have oO:Hid (X2<w3.heap.size):=jq (by omega);have er:(Instr.lookup 299 (.map (some X1)) (.agg #[.int .i64 x.host,.string sn]) false).run prog w3 = .ok (.bool (decide ((x.host,sn.data.toList)∈(l.take k).map Np.jy))) w3:=by
    have:=aHK w3 299 4 underlying299 X1 _ oH.out (x.host,sn.data.toList) (.bool false) (by kernel_rfl)
    rw[CU] at this;exact this
   rw[<-iY.out] at er;clear aa aw fJ ac aq ju HM HN kk;by_cases g1:x.host<0
   ·have d1:decide (x.host<0)=true:=uQ g1;have HX:Hid (r=false):=jq (HF.out λh=>by have:=h.1;omega);clear g1;go_wp2_with fail;go_ret;exact⟨ag HX.out.symm,by rw[kN.out];exact ar.out⟩
   ·have d1:decide (x.host<0)=false:=tQ g1;by_cases g2:(n:Int)<=x.host
    ·have d2:decide ((n:Int)<=x.host)=true:=uQ g2;have HX:Hid (r=false):=jq (HF.out λh=>by have:=h.1;omega);clear g1 g2;go_wp2_with fail;go_ret;exact⟨ag HX.out.symm,by rw[kN.out];exact ar.out⟩
    ·have d2:decide ((n:Int)<=x.host)=false:=tQ g2;have HG:Hid (0<=x.host/\x.host<n):=jq (by omega);clear g1 g2;by_cases g3:Np.jy x∈(l.take k).map Np.jy
     ·rw[uQ g3] at er;have HX:Hid (r=false):=jq (vx.out g3);clear g3;go_wp2_with fail;go_ret;exact⟨ag HX.out.symm,by rw[kN.out];exact ar.out⟩
     ·rw[tQ g3] at er;have cI:=jq g3;clear g3;go_wp2_with fail;refine (Tj sn cB _ x.zone.sets Be.out w3 ((gz.out.keep ar.out).more (by have:=ar.out.size;omega)) lA.out).mono ?_;rintro e w4 ⟨rfl,aC⟩;have fl:w3.heap.size<=w4.heap.size:=aC.size;have s0:w4.cell? ⟨wr.heap.size,0,none⟩=some (.int .i64 x.host):=aaJ aC q0;have s1:w4.cell? ⟨wr.heap.size,1,none⟩=some (.string sn):=aaJ aC q1;have s2:w4.cell? ⟨wr.heap.size,2,none⟩=some (.slice Az nz cz):=aaJ aC q2;have t0:w4.cell? ⟨wr.heap.size+1,0,none⟩=some (.int .i64 x.host):=aaJ aC r0;have t1:w4.cell? ⟨wr.heap.size+1,1,none⟩=some (.string sn):=aaJ aC r1;have aU:=acZ ar aC;have yx:Hid (kl X1 (((l.take k).map Np.jy).map λy=>(y,Value.bool true)) w4):=jq (oH.out.keep aC (by omega));have Hg:Hid (kR X2 k w4):=jq (DA.out.keep aC oO.out);have EK:w4.cell? ⟨X,0,none⟩=some (.slice Ah n ch):=aaJ aC Ph;have bZ:=jq EK;clear aC p0 p1 q0 q1 q2 r0 r1 aj fj f0 f1 f2 er Ph oH DA;obtain⟨rz,fy⟩:=acJ (Np.yes (Np.VZone ⟨sn.data.toList,x.zone.sets⟩));rw[fy];have ja:=jq fy;clear fy
      cases rz with
      | false=>
       have HX:Hid (r=false):=jq (HF.out λh=>by
        have h1:=h.2;have h2:x.zone=⟨sn.data.toList,x.zone.sets⟩:=by rw[aT.out]
        rw[h2] at h1;have h3:=Np.bh h1;rw[ja.out] at h3
        cases h3)
       go_wp2_with fail;go_ret;exact⟨ag HX.out.symm,by rw[kN.out];exact aU.out⟩
      | true=>
       have vV:Hid (Np.pW n (l.take (k+1))):=jq (du.out ⟨HG.out,by
        have h2:x.zone=⟨sn.data.toList,x.zone.sets⟩:=by rw[aT.out]
        rw[h2];exact Np.fq.1 ja.out⟩ cI.out)
       have Uy:Hid ((((l.take k).map Np.jy).map λy=>(y,Value.bool true)).lookup (x.host,sn.data.toList)=none):=jq (by rw[<-iY.out];exact Fu _ _ cI.out);go_wp2_with (at_mapUpdate;first
        | (refine aWY _ rfl _ _ _ 299 rfl 4 underlying299 X1 _ rfl yx.out (x.host,sn.data.toList) rfl (.bool true) rfl Uy.out ?_;intro w5 mL ml;have s1':w5.cell? ⟨wr.heap.size,1,none⟩=some (.string sn):=(ml.cell (by dsimp only;omega)).trans s1;have H5:=jq (And.intro mL ml);have Uu:=jq (Hg.out.turned ml (by omega));clear mL ml s0 s1 s2 t0 t1 EK)
        | (refine aWX _ rfl _ _ _ 111 rfl 9 4 underlying111 underlying9 X2 k rfl Uu.out sn.data.toList rfl (.bool true) rfl ?_;intro w6 P1 QC;have H6:=jq (And.intro P1 QC);clear P1 QC))
       go_roundw
       case rel=>
        refine⟨k+1,by omega,by go_num,jq (((aU.out.trans (H5.out.2.below (by omega))).trans (H6.out.2.below (by omega)))),by rw[H6.out.2.size,H5.out.2.size];have:=oO.out;omega,jq ((H6.out.2.cell (by dsimp only;omega)).trans ((H5.out.2.cell (by dsimp only;omega)).trans bZ.out)),jq ?_,jq H6.out.1,vV⟩;have h1:=H5.out.1.keep' (w':=w6) (H6.out.2.block _ (by omega));rw[HT.out,List.map_append,iY.out];exact h1
       case measure=>simp[intOf] <;> omega
  ·have AZ:Hid (Np.pW n l):=jq (by have:=HV.out;rwa [kQ (by omega)] at this);obtain⟨es,ce,kvs,hes,_,an⟩:=HN.out;have YD:decide ((es.size:Int)<=500)=true:=adK;have uq:(Builtin.len_ #[111] 3 #[.map (some X2)]).run prog wr = .ok (.int .i64 (es.size:Int)) wr:=by
    simp[Builtin.len_,run_underlying underlying111,MapKept.run_getObj_map hes,Result.andThen,goInt]
   obtain⟨m5,mL⟩:=acJ es.size;rw[mL] at uq YD;clear hes mL;go_wp2_with fail;go_ret;exact⟨ag (by rw[<-HR.out];exact (Np.bh AZ.out).symm),by rw[kN.out];exact HB.out⟩
def my(W:World)(B:Nat)(e:List Value)(c:Np.Copy):Prop:=∃ (s:ByteArray) (v:Value),s.data.toList=c.zone.apex/\s.size<=140737488355328/\SlR bO 5 W B v c.zone.sets/\e = [.int .i64 c.host,.int .i64 c.frm,.int .i64 c.til,.string s,v]
theorem mp:ep my:=λ_ _ _ _ _ ⟨s,v,h1,h2,h3,h5⟩ hb=>⟨s,v,h1,h2,h3.keep bj hb,h5⟩
theorem xX:eL my:=λ_ _ _ _ _ ⟨s,v,h1,h2,h3,h5⟩ hb=>⟨s,v,h1,h2,h3.more cC hb,h5⟩
theorem t8{w:World}{B n c:Nat}{A:Option Addr}{xs:List Np.Copy}(h:SlR my 5 w B (.slice A n c) xs){k:Nat}{x:Np.Copy}(hx:xs[k]?=some x):∃ (b o:Nat) (s:ByteArray) (v:Value),A=some ⟨b,o,none⟩/\b<B/\s.data.toList=x.zone.apex/\s.size<=140737488355328/\SlR bO 5 w B v x.zone.sets/\w.cell? ⟨b,o+k * 5,none⟩=some (.int .i64 x.host)/\w.cell? ⟨b,o+k * 5+1,none⟩=some (.int .i64 x.frm)/\w.cell? ⟨b,o+k * 5+2,none⟩=some (.int .i64 x.til)/\w.cell? ⟨b,o+k * 5+3,none⟩=some (.string s)/\w.cell? ⟨b,o+k * 5+4,none⟩=some v:=by
 obtain⟨A',c',hA',_,_,bU⟩:=h
 cases hA'
 obtain⟨b,o,e,hA,bB,hlen,hce,s,v,h1,h2,h3,he⟩:=bU k _ hx;subst he;exact⟨b,o,s,v,hA,bB,h1,h2,h3,hce 0 _ rfl,hce 1 _ rfl,hce 2 _ rfl,hce 3 _ rfl,hce 4 _ rfl⟩
theorem VK(h f u:Int)(s:ByteArray)(v:Value)(w:World) :
 Calls prog 125 #[.agg #[.int .i64 h,.int .i64 f,.int .i64 u,.string s,v]] w (a0X w.heap.size w (.string s)):=by
 have HB:Hid (∀ o,Below w.heap.size w (w.alloc o)):=jq (λo=>(vQ _ w).alloc (bQ _) _);go_enter func125,ntmps125;go_wp2_with fail;go_ret;exact⟨rfl,HB.out _⟩
theorem cF.turned{base r:Nat}{w w':World}{v:Value}{ps:List (List UInt8)}(h:cF base w v ps)(ht:Turned r w w')(hr:r<base):cF base w' v ps:=gN h (λg hg=>ht.block g (by have:=(h.lt g hg).1;omega))
theorem cF.weak{base base':Nat}{w:World}{v:Value}{ps:List (List UInt8)}(h:cF base w v ps)(hb:base'<=base):cF base' w v ps:=by
 refine⟨h.1,?_⟩;rcases h.2 with h2 | ⟨g,cap,cur,h1,h2,h3⟩
 ·exact .inl h2
 ·exact .inr ⟨g,cap,cur,h1,yQ hb h2,h3⟩
def C9(ks:List (List UInt8)):List (List UInt8×Value):=ks.map λy=>(y,Value.bool true)
theorem SM(v:Value)(l:List Np.Copy)(bW:l.length<=20000)(w:World)(h:SlR my 5 w w.heap.size v l) :
 Calls prog 124 #[v,.func (.func 125) #[] #[]] w λe w'=>∃ v',e = .returned v'/\cF w.heap.size w' v' (Np.cj (l.map (·.zone.apex)))/\Below w.heap.size w w':=by
 have HD:=jq h;obtain⟨A,c,rfl,bq,bM⟩:=ak h;clear h;have mf:∀ (w:World),(Instr.makeMap 111 none).run prog w = .ok (.map (some w.heap.size)) (w.alloc (.map #[] 0)):=λw=>by
  simp[Instr.makeMap,Result.andThen]
 have jm:Hid (∀ k,(Np.cj ((l.take k).map (·.zone.apex))).length<=20000):=jq (λk=>by
  have h1:=Np.tr ((l.take k).map (·.zone.apex));rw[List.length_map,List.length_take] at h1;omega)
 go_enter func124,ntmps124;go_wp2_with fail;have vL:=jq (dG.made w);have av:Hid (Below w.heap.size w (w.alloc (.map #[] 0))):=jq ((vQ _ w).alloc (bQ _) _);have bd:w.heap.size<(w.alloc (.map #[] 0)).heap.size:=by simp
 generalize w.alloc (.map #[] 0)=w1 at *;go_loopw [6,13] (λvo i wr=>∃ k:Nat,k<=l.length/\i = .int .i64 k/\Hid (Below w.heap.size w wr)/\w.heap.size<wr.heap.size/\Hid (dG w.heap.size (C9 (Np.cj ((l.take k).map (·.zone.apex)))) wr)/\Hid (cF (w.heap.size+1) wr vo (Np.cj ((l.take k).map (·.zone.apex))))) (λ_ i _=>l.length - (intOf i).toNat)
 case atStart=>exact⟨0,jQ _,rfl,av,bd,vL,jq ⟨by simp[Np.cj],.inl ⟨rfl,rfl⟩⟩⟩
 case round=>
  obtain⟨k,hk,rfl,HB,dK,HM,HO⟩:=hrel;by_cases ab:k<l.length
  ·obtain⟨x,aa⟩:∃ x,l[k]?=some x:=⟨_,aQ ab⟩;obtain⟨b,o,sn,vz,rfl,bA,aw,cB,fJ,f0,f1,f2,f3,f4⟩:=t8 (HD.out.keep mp HB.out) aa;obtain⟨Az,cz,rfl,_,_⟩:=ak fJ;obtain⟨nz,ju⟩:=acJ x.zone.sets.length;rw[ju] at f4;obtain⟨ks,kA⟩:=acJ (Np.cj ((l.take k).map (·.zone.apex)));have HT:Hid (Np.cj ((l.take (k+1)).map (·.zone.apex))=Np.gS ks sn.data.toList):=jq (by
    obtain⟨hl,he⟩:=cQ.1 aa;rw[fQ hl,he,List.map_append,<-kA,aw];exact Np.tt _ _)
   have kg:Hid (ks.length<=20000):=jq (by rw[<-kA];exact jm.out k);rw[kA] at HM HO;obtain⟨w2,aj⟩:=acJ (wr.alloc (.cells #[.int .i64 x.host,.int .i64 x.frm,.int .i64 x.til,.string sn,.slice Az nz cz] 46));have ac:Below wr.heap.size wr w2:=by rw[<-aj];exact (vQ _ _).alloc (bQ _) _
   have aN:wr.heap.size<w2.heap.size:=by rw[<-aj];simp
   have p0:w2.cell? ⟨wr.heap.size,0,none⟩=some (.int .i64 x.host):=by rw[<-aj];simp[go_sem]
   have p1:w2.cell? ⟨wr.heap.size,1,none⟩=some (.int .i64 x.frm):=by rw[<-aj];simp[go_sem]
   have p2:w2.cell? ⟨wr.heap.size,2,none⟩=some (.int .i64 x.til):=by rw[<-aj];simp[go_sem]
   have p3:w2.cell? ⟨wr.heap.size,3,none⟩=some (.string sn):=by rw[<-aj];simp[go_sem]
   have p4:w2.cell? ⟨wr.heap.size,4,none⟩=some (.slice Az nz cz):=by rw[<-aj];simp[go_sem]
   have ai:=jq ac;have an:=HB.out.size;clear aa aw fJ ju kA ac;go_wp2_with fail;refine (VK _ _ _ _ _ _).mono ?_;rintro e w3 ⟨rfl,aq⟩;have ar:=acZ ai aq;have eR:wr.heap.size<w3.heap.size:=by have:=aq.size;omega
   have oH:Hid (dG w.heap.size (C9 ks) w3):=jq (HM.out.keep ar.out dK);have iD:Hid (cF (w.heap.size+1) w3 _ ks):=jq (HO.out.keep ar.out);clear aq aj p0 p1 p2 p3 p4 f0 f1 f2 f3 f4;have jw:=FT (P:=prog) w3 111 9 4 underlying111 underlying9 w.heap.size _ oH.out sn.data.toList (.bool false) (by kernel_rfl);unfold C9 at jw;rw[CU] at jw;by_cases hin:sn.data.toList∈ks
   ·have jb:Hid (Np.cj ((l.take (k+1)).map (·.zone.apex))=ks):=jq (by rw[HT.out,Np.yO hin]);rw[uQ hin] at jw;clear hin;go_wp2_with fail;go_roundw
    case rel=>exact⟨k+1,by omega,by go_num,acZ HB ar.out,by omega,jq (by rw[jb.out];exact oH.out),jq (by rw[jb.out];exact iD.out)⟩
    case measure=>simp[intOf] <;> omega
   ·have jb:Hid (Np.cj ((l.take (k+1)).map (·.zone.apex))=ks ++ [sn.data.toList]):=jq (by rw[HT.out,Np.gS,Qc hin]);have cI:Hid ((C9 ks).lookup sn.data.toList=none):=jq (Fu _ _ hin);rw[tQ hin] at jw;clear hin;go_wp2_with (first
     | (at_mapUpdate;refine S9 _ rfl _ _ _ 111 rfl 9 4 underlying111 underlying9 w.heap.size _ rfl oH.out sn.data.toList rfl (.bool true) rfl cI.out ?_;intro w5 mL ml;have H5:=jq (And.intro mL ml);have nt:Hid (cF (w.heap.size+1) w5 _ ks):=jq (cF.turned iD.out ml (by omega));have ik:wr.heap.size<w5.heap.size:=(by rw[ml.size];exact eR);clear mL ml)
     | (at_builtin;refine zS _ rfl _ _ rfl (w.heap.size+1) _ ks rfl (nt.out.alloc _) w5.heap.size sn.data.toList (by simp[go_sem]) (by simp[go_sem]) (by have:=kg.out;omega) (by simp;omega) ?_;intro v6 w6 ix aW;have H6:=jq (And.intro ix aW);clear ix aW))
    go_roundw
    case rel=>exact⟨k+1,by omega,by go_num,jq ((((HB.out.trans (ar.out.adZ)).trans (H5.out.2.below (bQ _))).alloc (by omega) _).trans (H6.out.2.adZ)),by have:=H6.out.2.size;simp at this;omega,jq (by rw[jb.out];unfold C9;rw[List.map_append];exact (H5.out.1.keep ((vQ _ _).alloc (bQ _) _) (by omega)).keep H6.out.2 (by omega)),jq (by rw[jb.out];exact H6.out.1)⟩
    case measure=>simp[intOf] <;> omega
  ·have HE':Hid (l.take k=l):=jq (kQ (by omega));go_wp2_with fail;go_ret;exact⟨_,rfl,by have:=HO.out.weak (Nat.le_succ _);rw[HE'.out] at this;exact this,HB.out⟩
theorem aSY{w:Np.WorldP} : Np.VWorld w↔(Np.VHosts w.hosts/\Np.pW w.hosts.length w.zones)/\Np.VRoot w.anchor w.hints:=
 ⟨λh=>⟨⟨h.hosts,h.each,h.apart⟩,h.root⟩,λh=>⟨h.1.1,h.2,h.1.2.1,h.1.2.2⟩⟩
theorem aUZ(hv:Value)(hs:List Np.Host)(zv:Value)(l:List Np.Placed)(s:ByteArray)(an:s.size<=140737488355328)(ty life:Int)(dv:Value)(d:List Np.Datum)(dU:Value)(hints:List Int)(hl:l.length<=500)(hz:∀ p∈l,p.zone.sets.length<=20000)(w:World)(hR:jo w w.heap.size)
 (hh:SlR kS 3 w w.heap.size hv hs) (hd:SlR vZ 3 w w.heap.size zv l) (hdd:SlR bR 3 w w.heap.size dv d) (kx:SlR lF 1 w w.heap.size dU hints) :
 Calls prog 110 #[.agg #[hv,zv,.string s,.int .i64 ty,.int .i64 life,dv,dU]] w (a0X w.heap.size w (.bool (Np.yes (Np.VWorld ⟨hs,l,⟨s.data.toList,ty,life,d⟩,hints⟩)))):=by
 obtain⟨r,hr⟩:=acJ (Np.yes (Np.VWorld ⟨hs,l,⟨s.data.toList,ty,life,d⟩,hints⟩));rw[hr];have HR:Hid (Np.yes ((Np.VHosts hs/\Np.pW hs.length l)/\Np.VRoot ⟨s.data.toList,ty,life,d⟩ hints)=r):=jq (by rw[<-hr];exact (Np.ve (aSY (w:=⟨hs,l,⟨s.data.toList,ty,life,d⟩,hints⟩))).symm);have HH:=jq hh;have HD:=jq hd;have qG:=jq hdd;have qJ:=jq kx;have gz:=jq hR;obtain⟨A1,c1,rfl,_,_⟩:=ak hh;obtain⟨A2,c2,rfl,_,_⟩:=ak hd;obtain⟨A3,c3,rfl,_,_⟩:=ak hdd;obtain⟨A4,c4,rfl,_,_⟩:=ak kx;clear hr hd hR hh hdd kx;obtain⟨W1,am⟩:=acJ (w.alloc (.cells #[.slice A1 hs.length c1,.slice A2 l.length c2,.string s,.int .i64 ty,.int .i64 life,.slice A3 d.length c3,.slice A4 hints.length c4] 68));have aI:Below w.heap.size w W1:=by rw[<-am];exact (vQ _ _).alloc (bQ _) _
 have iS:W1.heap.size=w.heap.size+1:=by rw[<-am];simp
 obtain⟨n1,bP⟩:=acJ hs.length;obtain⟨n2,cr⟩:=acJ l.length;obtain⟨n3,eu⟩:=acJ d.length;obtain⟨n4,eP⟩:=acJ hints.length;rw[bP,cr,eu,eP] at am;rw[bP] at HH HR;rw[cr] at HD;rw[eu] at qG;rw[eP] at qJ;rw[bP,cr,eu,eP];have k0:W1.cell? ⟨w.heap.size,0,none⟩=some (.slice A1 n1 c1):=by rw[<-am];simp[go_sem]
 have k1:W1.cell? ⟨w.heap.size,1,none⟩=some (.slice A2 n2 c2):=by rw[<-am];simp[go_sem]
 have k2:W1.cell? ⟨w.heap.size,2,none⟩=some (.string s):=by rw[<-am];simp[go_sem]
 have k3:W1.cell? ⟨w.heap.size,3,none⟩=some (.int .i64 ty):=by rw[<-am];simp[go_sem]
 have k4:W1.cell? ⟨w.heap.size,4,none⟩=some (.int .i64 life):=by rw[<-am];simp[go_sem]
 have k5:W1.cell? ⟨w.heap.size,5,none⟩=some (.slice A3 n3 c3):=by rw[<-am];simp[go_sem]
 have k6:W1.cell? ⟨w.heap.size,6,none⟩=some (.slice A4 n4 c4):=by rw[<-am];simp[go_sem]
 have aV:=jq aI;have HN:=jq (And.intro bP (And.intro cr (And.intro eu eP)));clear aI bP cr eu eP;go_enter func110,ntmps110;go_wp2_with fail;refine (aRY _ hs _ (HH.out.later oh x7 aV.out)).mono ?_;rintro e w2 ⟨rfl,ac⟩;replace k0:=aaJ ac k0;replace k1:=aaJ ac k1;replace k2:=aaJ ac k2;replace k3:=aaJ ac k3;replace k4:=aaJ ac k4;replace k5:=aaJ ac k5;replace k6:=aaJ ac k6;have aN:=ac.size;have ai:=acZ aV ac;clear ac am;obtain⟨b1,ay⟩:=acJ (Np.yes (Np.VHosts hs));rw[ay];have tR:=jq ay;clear ay
 cases b1 with
 | false=>
  have HX:Hid (r=false):=jq (by rw[<-HR.out];exact Np.aF λq=>by have:=Np.bh q.1.1;rw[tR.out] at this;cases this);go_wp2_with fail;go_ret;exact⟨ag HX.out.symm,ai.out⟩
 | true=>
  go_wp2_with fail;refine (aRK _ n1 ⟨_,_,rfl⟩ _ l _ ty life _ _ s rfl hl hz _ ((gz.out.keep ai.out).more ai.out.size) (HD.out.later FN Ld ai.out)).mono ?_;rintro e w3 ⟨rfl,aq⟩;replace k0:=aaJ aq k0;replace k1:=aaJ aq k1;replace k2:=aaJ aq k2;replace k3:=aaJ aq k3;replace k4:=aaJ aq k4;replace k5:=aaJ aq k5;replace k6:=aaJ aq k6;have eR:=aq.size;have ar:=acZ ai aq;clear aq;obtain⟨b2,ac⟩:=acJ (Np.yes (Np.pW n1 l));rw[ac];have Bc:=jq ac;clear ac
  cases b2 with
  | false=>
   have HX:Hid (r=false):=jq (by rw[<-HR.out];exact Np.aF λq=>by have:=Np.bh q.1.2;rw[Bc.out] at this;cases this);go_wp2_with fail;go_ret;exact⟨ag HX.out.symm,ar.out⟩
  | true=>
   go_wp2_with fail;refine (aSQ s an ty life _ d _ hints _ ((gz.out.keep ar.out).more ar.out.size) (qG.out.later bV cu ar.out) (qJ.out.later qy x8 ar.out)).mono ?_;rintro e w4 ⟨rfl,aC⟩;have aU:=jq (ar.out.trans (aC.mono ar.out.size));clear aC;have HX:Hid (Np.yes (Np.VRoot ⟨s.data.toList,ty,life,d⟩ hints)=r):=jq (by
    rw[<-HR.out];exact Np.ve ⟨λq=>⟨⟨Np.fq.1 tR.out,Np.fq.1 Bc.out⟩,q⟩,λq=>q.2⟩)
   rw[HX.out];go_wp2_with fail;go_ret;exact⟨rfl,aU.out⟩
end
section
open Go.RowKit
theorem RN:∀ (o:List (List UInt8)) (a:List UInt8) (q:Nat) (hq:q<o.length),(∀ t (h:t<o.length),t<q->Np.aL o[t] a<0)->o[q]=a->Np.fD o a=o
 | [],_,_,hq,_,_=>by simp at hq
 | x::l,a,0,_,_,he=>by
   simp at he;subst he;rw[Np.fD,Qc (by rw[Np.fW.self];omega),Qb rfl]
 | x::l,a,q+1,hq,ab,he=>by
   have h0:=ab 0 (by simp) (by omega);rw[Np.fD,Qb (by simpa using h0),RN l a q (by simpa using hq) (λt h ht=>ab (t+1) (by simpa using h) (by omega)) (by simpa using he)]
theorem K3:∀ (o:List (List UInt8)) (a:List UInt8) (q:Nat),q<=o.length->(∀ t (h:t<o.length),t<q->Np.aL o[t] a<0)->(∀ h:q<o.length,¬ Np.aL o[q] a<0/\o[q]≠a)->Np.fD o a=o.take q++a::o.drop q
 | [],a,q,_,_,_=>by simp[Np.fD]
 | x::l,a,0,_,_,hn=>by
   obtain⟨h1,h2⟩:=hn (by simp);simp at h1 h2;rw[Np.fD,Qc (by omega),Qc h2];rfl
 | x::l,a,q+1,hq,ab,hn=>by
   have h0:=ab 0 (by simp) (by omega);rw[Np.fD,Qb (by simpa using h0),K3 l a q (by simpa using hq) (λt h ht=>ab (t+1) (by simpa using h) (by omega)) (λh=>hn (by simpa using h))];rfl
theorem aKZ{o:List (List UInt8)}{x:List UInt8}{m:Nat}(hm:m<o.length):(o.take (m+1)++x::o.drop (m+1)).set (m+1) o[m]=o.take m++o[m]::o.drop m:=by
 have h1:(o.take (m+1)).length=m+1:=by rw[List.length_take];omega
 rw[List.set_append_right _ _ (by omega),h1,Nat.sub_self,List.set_cons_zero,fQ hm,List.append_assoc,sQ hm];rfl
theorem Sn{o:List (List UInt8)}{x a:List UInt8}{q:Nat}(hq:q<=o.length):(o.take q++x::o.drop q).set q a=o.take q++a::o.drop q:=by
 have h1:(o.take q).length=q:=by rw[List.length_take];omega
 rw[List.set_append_right _ _ (by omega),h1,Nat.sub_self,List.set_cons_zero]
theorem aKJ{o:List (List UInt8)}{x:List UInt8}{j t:Nat}(ht:t<j)(hj:j<=o.length):(o.take j++x::o.drop j)[t]?=o[t]?:=by
 rw[List.getElem?_append_left (by rw[List.length_take];omega),List.getElem?_take_of_lt ht]
theorem Sp{o:List (List UInt8)}{x:List UInt8}{j:Nat}(hj:j<=o.length):(o.take j++x::o.drop j)[j]?=some x:=by
 have h1:(o.take j).length=j:=by rw[List.length_take];omega
 rw[oQ (by omega),h1,Nat.sub_self];rfl
theorem So{o:List (List UInt8)}{x:List UInt8}{j:Nat}(hj:j<=o.length):(o.take j++x::o.drop j).length=o.length+1:=by
 rw[List.length_append,List.length_cons,List.length_take,List.length_drop];omega
theorem RL:∀ (o:List (List UInt8)) (a:List UInt8),(Np.fD o a).length<=o.length+1
 | [],a=>by simp[Np.fD]
 | x::l,a=>by
   rw[Np.fD];split
   ·have:=RL l a;simp;omega
   ·split <;> simp
theorem I1:∀ (l o:List (List UInt8)),(l.foldl Np.fD o).length<=o.length+l.length
 | [],o=>by simp
 | a::l,o=>by
   have h1:=I1 l (Np.fD o a);have h2:=RL o a;rw[List.foldl_cons,List.length_cons];omega
theorem OL:∀ (l o:List (List UInt8)) (y:List UInt8),y∈l.foldl Np.fD o->y∈o\/y∈l
 | [],o,y,h=>.inl h
 | a::l,o,y,h=>by
   rcases OL l _ y h with h1 | h1
   ·have:∀ (o:List (List UInt8)),y∈Np.fD o a->y∈o\/y=a:=by
     intro o
     induction o with
     | nil=>intro h;rw[Np.fD,List.mem_singleton] at h;exact .inr h
     | cons x l ih=>
      intro h;rw[Np.fD] at h;split at h
      ·rcases List.mem_cons.1 h with h | h
       ·exact .inl (by rw[h];simp)
       ·rcases ih h with h | h
        ·exact .inl (mQ _ h)
        ·exact .inr h
      ·split at h
       ·exact .inl h
       ·rcases List.mem_cons.1 h with h | h
        ·exact .inr h
        ·exact .inl h
    rcases this o h1 with h2 | h2
    ·exact .inl h2
    ·exact .inr (by rw[h2];simp)
   ·exact .inr (mQ _ h1)
theorem R8{X:Nat}{w:World}{v:Value}{o:List (List UInt8)}{a:List UInt8}{N1:Nat}(h:cF X w v (o ++ [a]))(hN:o.length+1=N1):∃ g cap,v = .slice (some ⟨g,0,none⟩) N1 cap/\w.ownsRow X 9 1 (.slice (some ⟨g,0,none⟩) N1 cap) N1 ((o ++ [a]).map aA):=by
 have e:(o ++ [a]).length=N1:=by simp[hN]
 have h1:w.ownsRow X 9 1 v N1 ((o ++ [a]).map aA):=by rw[<-e];exact h
 rcases h1.2 with ⟨_,h2⟩ | ⟨g,cap,cur,rfl,_⟩
 ·omega
 ·exact⟨g,cap,rfl,h1⟩
theorem RV(v:Value)(l:List Np.Copy)(bW:l.length<=20000)(sF:∀ c∈l,c.zone.apex.length<=1000)(w:World)(h:SlR my 5 w w.heap.size v l) :
 Calls prog 90 #[v] w λe w'=>∃ v',e = .returned v'/\cF w.heap.size w' v' (Np.apexes l)/\Below w.heap.size w w':=by
 rw[<-Np.IK];have HD:=jq h;have oy:=jq sF;obtain⟨A,c,rfl,bq,bM⟩:=ak h;clear h sF;obtain⟨X,hX⟩:=acJ w.heap.size;rw[hX] at HD |-;have kN:=jq hX;clear hX;go_enter func90,ntmps90;go_wp2_with fail;go_loopw [3,4] (λvo i wr=>∃ (k:Nat) (o:List (List UInt8)),k<=l.length/\i = .int .i64 k/\X<=wr.heap.size/\Hid (Below X w wr)/\Hid (cF X wr vo o)/\Hid (((l.take k).map (·.zone.apex)).foldl Np.fD []=o)) (λ_ i _=>l.length - (intOf i).toNat)
 case atStart=>exact⟨0,[],jQ _,rfl,by rw[kN.out];exact bQ _,jq (vQ _ _),jq ⟨by simp,.inl ⟨rfl,rfl⟩⟩,jq rfl⟩
 case round=>
  obtain⟨k,o,hk,rfl,y7,HB,HO,HE⟩:=hrel;have iE:Hid (o.length<=20000):=jq (by have:=I1 ((l.take k).map (·.zone.apex)) [];rw[HE.out] at this;simp at this;omega);have AI:Hid (∀ y∈o,y.length<=1000):=jq (λy hy=>by
   rw[<-HE.out] at hy;rcases OL _ _ _ hy with h1 | h1
   ·cases h1
   ·obtain⟨c,hc,rfl⟩:=List.mem_map.1 h1;exact oy.out c (List.mem_of_mem_take hc))
  by_cases ab:k<l.length
  ·obtain⟨x,aa⟩:∃ x,l[k]?=some x:=⟨_,aQ ab⟩;obtain⟨b,oo,sn,vz,rfl,bA,aw,cB,fJ,f0,f1,f2,f3,f4⟩:=t8 (HD.out.keep mp HB.out) aa;have mw:Hid (((l.take (k+1)).map (·.zone.apex)).foldl Np.fD []=Np.fD o sn.data.toList):=jq (by
    obtain⟨hl,he⟩:=cQ.1 aa;rw[fQ hl,he,List.map_append,List.foldl_append,HE.out,aw];rfl)
   have ZM:sn.size<=1000:=by
    have h1:=oy.out x (gQ aa);rw[<-aw,bn] at h1;exact h1
   obtain⟨A0,c0,rfl⟩:=cF.form HO.out;obtain⟨N,hN⟩:=acJ o.length;have HN:=jq hN;have iZ:Hid (wr.ownsRow X 9 1 (.slice A0 N c0) N (o.map aA)):=jq (by have:wr.ownsRow X 9 1 (.slice A0 o.length c0) o.length (o.map aA):=HO.out;rwa [hN] at this);have a1J:N<=20000:=by rw[<-hN];exact iE.out
   rw[hN] at HO;rw[hN];obtain⟨wo,rfl⟩:=acY wr;clear aa aw fJ f4 hN;go_wp2_with fail;go_loopw [6] (λp wi=>∃ q:Nat,q<=N/\p = .int .i64 q/\Hid (Below wo.heap.size wo wi)/\Hid (∀ t (h:t<o.length),t<q->Np.aL o[t] sn.data.toList<0)) (λp _=>N - (intOf p).toNat)
   case atStart=>exact⟨0,jQ _,rfl,jq (vQ _ _),jq (λt h ht=>by omega)⟩
   case round=>
    obtain⟨q,ZA,rfl,cw,HQ⟩:=hrel;have uN:=cw.out.size;have oJ:Hid (wr.ownsRow X 9 1 (.slice A0 N c0) N (o.map aA)):=jq (gN iZ.out (λg hg=>cw.out.block g (iZ.out.lt g hg).2));by_cases hq:q<N
    ·obtain⟨g,rfl⟩:∃ g,A0=some ⟨g,0,none⟩:=by
      rcases oJ.out.2 with ⟨h1,h2⟩ | ⟨g,cap,cur,h1,_⟩
      ·omega
      ·simp only[Value.slice.injEq] at h1;exact⟨g,h1.1⟩
     have Qo:q<o.length:=by rw[HN.out];exact hq
     obtain⟨y,hy⟩:∃ y,o[q]?=some y:=⟨_,aQ Qo⟩;have r0:wr.cell? ⟨g,q,none⟩=some (aA y):=by rw[oJ.out.cellAt q (by omega),List.getElem?_map,hy];rfl
     have acQ:(⟨y.toArray⟩:ByteArray).size<=1000:=by
      have:=AI.out y (gQ hy)
      rw[<-bn];exact this
     have HY:Hid (o[q]'Qo=y):=jq (cQ.1 hy).2;have bL:=K7 ⟨y.toArray⟩ sn acQ ZM;have e1:(⟨y.toArray⟩:ByteArray).data.toList=y:=rfl;rw[e1] at bL;have HC:=jq bL;clear bL e1 hy;by_cases gG:Np.aL y sn.data.toList<0
     ·have hd:decide (Np.aL y sn.data.toList<0)=true:=uQ gG;have qW:Hid (∀ t (h:t<o.length),t<q+1->Np.aL o[t] sn.data.toList<0):=jq (λt h ht=>by
       by_cases e:t=q
       ·subst e;rw[HY.out];exact gG
       ·exact HQ.out t h (by omega))
      obtain⟨cz,sL⟩:=acJ (Np.aL y sn.data.toList);rw[sL] at hd HC;clear gG sL;unfold aA at r0;go_wp2_with (go_at_call 164;refine (HC.out _).mono ?_;rintro e w5 ⟨rfl,aH⟩;have bN:=jq (cw.out.trans (aH.mono uN));clear aH);go_roundw
      case rel=>exact⟨q+1,by omega,by go_num,jq bN.out,qW⟩
      case measure=>simp[intOf] <;> omega
     ·have hd:decide (Np.aL y sn.data.toList<0)=false:=tQ gG;have Uv:=jq gG;obtain⟨cz,sL⟩:=acJ (Np.aL y sn.data.toList);rw[sL] at hd HC;clear gG sL;unfold aA at r0;by_cases hey:y=sn.data.toList
      ·have eq:(y == sn.toList)=true:=by rw[dQ,hey];simp
       have AN:Hid (Np.fD o sn.data.toList=o):=jq (RN o _ q Qo HQ.out (by rw[HY.out];exact hey));clear hey;go_wp2_with (go_at_call 164;refine (HC.out _).mono ?_;rintro e w5 ⟨rfl,aH⟩;have r0':=(aH.cell (p:=⟨g,q,none⟩) (by have:=(oJ.out.lt g rfl).2;dsimp only;omega)).trans r0;have bN:=jq (cw.out.trans (aH.mono uN));clear aH);go_roundw
       case rel=>exact⟨k+1,o,by omega,by go_num,by have:=bN.out.size;omega,jq (HB.out.trans (bN.out.mono y7)),jq (HO.out.keep bN.out),jq (by rw[mw.out,AN.out])⟩
       case measure=>simp[intOf] <;> omega
      ·have eq:(y == sn.toList)=false:=by rw[dQ];simpa using hey
       have AN:Hid (Np.fD o sn.data.toList=o.take q++sn.data.toList::o.drop q):=jq (K3 o _ q (by omega) HQ.out (λh=>by rw[HY.out];exact⟨Uv.out,hey⟩));clear hey;obtain⟨N1,nK⟩:=acJ (o.length+1);have Ji:=HN.out;have ah:IntKind.i64.wrap ((N1:Int) - 1)=(N:Int):=by rw[show (N1:Int) - 1=N by omega];simp[IntKind.wrap,IntKind.bits,IntKind.signed];omega
       have X4:N+1=N1:=by omega
       have kL:=jq nK;clear nK Ji;go_wp2_with (first | (go_at_call 164;refine (HC.out _).mono ?_;rintro e w5 ⟨rfl,aH⟩;have r0':=(aH.cell (p:=⟨g,q,none⟩) (by have:=(oJ.out.lt g rfl).2;dsimp only;omega)).trans r0;have bN:=jq (cw.out.trans (aH.mono uN));have nt:Hid (cF X w5 _ o):=jq (HO.out.keep bN.out);have EA:X<=w5.heap.size:=(by have:=bN.out.size;omega);clear aH) | (at_builtin;refine zS _ rfl _ _ rfl X _ o rfl (nt.out.alloc _) w5.heap.size sn.data.toList (by simp[go_sem]) (by simp[go_sem]) (by have:=iE.out;omega) (by simp;omega) ?_;intro v6 w6 ix aW;obtain⟨g6,cap6,rfl,CB⟩:=R8 ix kL.out;have Ia:=jq CB;have dl:=jq ((((bN.out.mono y7).alloc EA _).trans aW));clear ix aW CB));have iy:X<=w6.heap.size:=by have:=dl.out.size;omega
       obtain⟨wj,Kw⟩:=acY w6;clear Kw;go_loopw [7] (λjv wi=>∃ (j:Nat) (z:List UInt8),q<=j/\j<=N/\jv = .int .i64 j/\X<=wi.heap.size/\Hid (Below X wo wi)/\Hid (wi.ownsRow X 9 1 (.slice (some ⟨g6,0,none⟩) N1 cap6) N1 ((o.take j++z::o.drop j).map aA))) (λjv _=>(intOf jv).toNat)
       case atStart=>exact⟨N,sn.data.toList,by omega,bQ _,rfl,iy,dl,jq (by rw[kQ (by rw[HN.out];exact bQ _),List.drop_eq_nil_of_le (by rw[HN.out];exact bQ _)];exact Ia.out)⟩
       case round=>
        obtain⟨j,z,ZC,JW,rfl,iS,Do,pO⟩:=hrel;have jM:j<=o.length:=by rw[HN.out];exact JW
        have EB:X<=g6/\g6<wr.heap.size:=pO.out.lt g6 rfl;have EO:wr.cell? ⟨g6,j,none⟩=some (aA z):=by rw[pO.out.cellAt j (by omega),List.getElem?_map,Sp jM];rfl
        have YS:wr.frozen? ⟨g6,j,none⟩=false:=pO.out.frozenAt j;have Y7:(0:Int)<=(j:Int):=by omega
        have Y8:(j:Int)<(N1:Int):=by omega
        have Y9:j<N1:=by omega
        by_cases Qm:q<j
        ·obtain⟨m,hm⟩:∃ m,j=m+1:=⟨j - 1,by omega⟩;have zl:m<o.length:=by omega
         obtain⟨u,hu⟩:∃ u,o[m]?=some u:=⟨_,aQ zl⟩;have zx:o[m]=u:=(cQ.1 hu).2;have gG:wr.cell? ⟨g6,m,none⟩=some (aA u):=by rw[pO.out.cellAt m (by omega),List.getElem?_map,aKJ (by omega) jM,hu];rfl
         have hjw:IntKind.i64.wrap ((j:Int) - 1)=(m:Int):=by rw[show (j:Int) - 1=m by omega];simp[IntKind.wrap,IntKind.bits,IntKind.signed];omega
         have jP:(0:Int)<=(m:Int):=by omega
         have P0:(m:Int)<(N1:Int):=by omega
         have jt:m<N1:=by omega
         have Pr:decide ((q:Int)<(j:Int))=true:=adK;have du:Hid ((wr.setCell ⟨g6,j,none⟩ (aA u)).ownsRow X 9 1 (.slice (some ⟨g6,0,none⟩) N1 cap6) N1 ((o.take m++u::o.drop m).map aA)):=jq (by
          have h1:=(World.ownsRow.stored pO.out j (aA u)).1;rw[<-List.map_set] at h1;subst hm;rw[<-zx,aKZ zl,zx] at h1;exact h1)
         have ke:Hid (Below X wo (wr.setCell ⟨g6,j,none⟩ (aA u))):=jq (Do.out.setCell EB.1 _);have ZD:q<=m:=by omega
         have Zm:m<=N:=by omega
         have Uq:Hid (m<j):=jq (by omega);clear hm hu zx;unfold aA at EO gG du ke;go_wp2_with fail;go_roundw
         case rel=>exact⟨m,u,ZD,Zm,rfl,by simp;omega,ke,du⟩
         case measure=>have:=Uq.out;simp[intOf] <;> omega
        ·have JX:j=q:=by omega
         subst JX;have Pr:decide ((j:Int)<(j:Int))=false:=adJ;have du:Hid ((wr.setCell ⟨g6,j,none⟩ (.string sn)).ownsRow X 9 1 (.slice (some ⟨g6,0,none⟩) N1 cap6) N1 ((o.take j++sn.data.toList::o.drop j).map aA)):=jq (by
          have h1:=(World.ownsRow.stored pO.out j (aA sn.data.toList)).1;rw[<-List.map_set,Sn jM] at h1;exact h1)
         have ke:Hid (Below X wo (wr.setCell ⟨g6,j,none⟩ (.string sn))):=jq (Do.out.setCell EB.1 _);have yv:Hid ((o.take j++sn.data.toList::o.drop j).length=N1):=jq (by rw[So jM];exact kL.out);unfold aA at EO;go_wp2_with fail;go_roundw
         case rel=>exact⟨k+1,_,by omega,by go_num,by simp;omega,jq (HB.out.trans ke.out),jq (by unfold cF;rw[yv.out];exact du.out),jq (by rw[mw.out,AN.out])⟩
         case measure=>simp[intOf] <;> omega
    ·have E8:q=N:=by omega
     have AN:Hid (Np.fD o sn.data.toList=o.take q++sn.data.toList::o.drop q):=jq (K3 o _ q (by rw[HN.out];exact ZA) HQ.out (λh=>by rw[HN.out] at h;omega));clear E8;obtain⟨N1,nK⟩:=acJ (o.length+1);have Ji:=HN.out;have ah:IntKind.i64.wrap ((N1:Int) - 1)=(N:Int):=by rw[show (N1:Int) - 1=N by omega];simp[IntKind.wrap,IntKind.bits,IntKind.signed];omega
     have X4:N+1=N1:=by omega
     have kL:=jq nK;clear nK Ji;have bN:=cw;have nt:Hid (cF X wr _ o):=jq (HO.out.keep cw.out);have EA:X<=wr.heap.size:=by omega
     go_wp2_with (first | (at_builtin;refine zS _ rfl _ _ rfl X _ o rfl (nt.out.alloc _) wr.heap.size sn.data.toList (by simp[go_sem]) (by simp[go_sem]) (by have:=iE.out;omega) (by simp;omega) ?_;intro v6 w6 ix aW;obtain⟨g6,cap6,rfl,CB⟩:=R8 ix kL.out;have Ia:=jq CB;have dl:=jq ((((bN.out.mono y7).alloc EA _).trans aW));clear ix aW CB));have iy:X<=w6.heap.size:=by have:=dl.out.size;omega
     obtain⟨wj,Kw⟩:=acY w6;clear Kw;go_loopw [7] (λjv wi=>∃ (j:Nat) (z:List UInt8),q<=j/\j<=N/\jv = .int .i64 j/\X<=wi.heap.size/\Hid (Below X wo wi)/\Hid (wi.ownsRow X 9 1 (.slice (some ⟨g6,0,none⟩) N1 cap6) N1 ((o.take j++z::o.drop j).map aA))) (λjv _=>(intOf jv).toNat)
     case atStart=>exact⟨N,sn.data.toList,by omega,bQ _,rfl,iy,dl,jq (by rw[kQ (by rw[HN.out];exact bQ _),List.drop_eq_nil_of_le (by rw[HN.out];exact bQ _)];exact Ia.out)⟩
     case round=>
      obtain⟨j,z,ZC,JW,rfl,iS,Do,pO⟩:=hrel;have jM:j<=o.length:=by rw[HN.out];exact JW
      have EB:X<=g6/\g6<wr.heap.size:=pO.out.lt g6 rfl;have EO:wr.cell? ⟨g6,j,none⟩=some (aA z):=by rw[pO.out.cellAt j (by omega),List.getElem?_map,Sp jM];rfl
      have YS:wr.frozen? ⟨g6,j,none⟩=false:=pO.out.frozenAt j;have Y7:(0:Int)<=(j:Int):=by omega
      have Y8:(j:Int)<(N1:Int):=by omega
      have Y9:j<N1:=by omega
      by_cases Qm:q<j
      ·exact absurd Qm (by omega)
      ·have JX:j=q:=by omega
       subst JX;have Pr:decide ((j:Int)<(j:Int))=false:=adJ;have du:Hid ((wr.setCell ⟨g6,j,none⟩ (.string sn)).ownsRow X 9 1 (.slice (some ⟨g6,0,none⟩) N1 cap6) N1 ((o.take j++sn.data.toList::o.drop j).map aA)):=jq (by
        have h1:=(World.ownsRow.stored pO.out j (aA sn.data.toList)).1;rw[<-List.map_set,Sn jM] at h1;exact h1)
       have ke:Hid (Below X wo (wr.setCell ⟨g6,j,none⟩ (.string sn))):=jq (Do.out.setCell EB.1 _);have yv:Hid ((o.take j++sn.data.toList::o.drop j).length=N1):=jq (by rw[So jM];exact kL.out);unfold aA at EO;go_wp2_with fail;go_roundw
       case rel=>exact⟨k+1,_,by omega,by go_num,by simp;omega,jq (HB.out.trans ke.out),jq (by unfold cF;rw[yv.out];exact du.out),jq (by rw[mw.out,AN.out])⟩
       case measure=>simp[intOf] <;> omega
  ·have HT:Hid (l.take k=l):=jq (kQ (by omega));go_wp2_with fail;go_ret;refine⟨_,rfl,?_,HB.out⟩;have h1:=HE.out;rw[HT.out] at h1;rw[h1];exact HO.out
theorem VX{B:Nat}{M:Nat->Prop}{w:World}(hM:∀ k,M k->B<=k):Below B w (bF w M):=
 ⟨rfl,rfl,rfl,by rw[j6];exact bQ _,λk hk=>kF (λh=>by have:=hM k h;omega)⟩
theorem SlR.around{α:Type}{R:a1Z α}{sz B:Nat}{w:World}{v:Value}{xs:List α}{M:Nat->Prop}(h:SlR R sz w B v xs)(hk:ep R)(hm:eL R)(hM:∀ k,M k->B<=k)(hB:B<=w.heap.size):SlR R sz (bF w M) w.heap.size v xs:=
 (h.keep hk (VX hM)).more hm hB
theorem br.keep{α:Type}{R:a1Z α}{sz:Nat}{e:TypeId}{base:Nat}{M:Nat->Prop}{w w':World}{v:Value}{xs:List α}(h:br R sz e base M w v xs)(hk:ep R)(hs:iJ R)(hm:eL R)(hb:Below w.heap.size w w'):br R sz e base M w' v xs:=by
 refine h.leaves hk hs hm (Leaves'.of_below hb) (λg hg=>?_);obtain⟨rows,h1,h2,h3,h4⟩:=h;exact⟨hb.block g (h2.lt g hg).2,h3 g hg⟩
theorem br.lt{α:Type}{R:a1Z α}{sz:Nat}{e:TypeId}{base:Nat}{M:Nat->Prop}{w:World}{v:Value}{xs:List α}(h:br R sz e base M w v xs):∀ g,v.ownBlock=some g->base<=g/\g<w.heap.size:=by
 obtain⟨rows,h1,h2,h3,h4⟩:=h;exact h2.lt
theorem br.formN{α:Type}{R:a1Z α}{sz:Nat}{e:TypeId}{base:Nat}{M:Nat->Prop}{w:World}{v:Value}{xs:List α}{n:Nat}(h:br R sz e base M w v xs)(hn:xs.length=n):∃ A c,v = .slice A n c:=by
 subst hn;exact h.form
theorem br.slr_sans{α:Type}{R:a1Z α}{sz:Nat}{e:TypeId}{base:Nat}{M M':Nat->Prop}{w:World}{v:Value}{xs:List α}(hs:iJ R)(hm:eL R)(h:br R sz e base M w v xs)(hM:∀ k,M' k->M k/\v.ownBlock≠some k)(hl:xs.length<=140737488355328):SlR R sz (bF w M') w.heap.size v xs:=by
 obtain⟨rows,h1,h2,h3,h4⟩:=h;have h5:cE R sz e base w.heap.size (bF w M') v xs:=⟨rows,h1,gN h2 (λg hg=>kF (λhm'=>(hM g hm').2 hg)),λi r x hr hx=>⟨(h4 i r x hr hx).1,hs _ _ _ _ _ _ (λk hk=>(hM k hk).1) (h4 i r x hr hx).2⟩⟩;have h6:=h5.slr hm (by rw[j6];exact bQ _) hl;rwa [j6] at h6
theorem Leaves'.slr{α:Type}{R:a1Z α}{sz:Nat}(hk:ep R)(hs:iJ R)(hm:eL R){M M':Nat->Prop}{w w':World}(h:Leaves' M w w' M'){v:Value}{xs:List α}(hr:SlR R sz (bF w M) w.heap.size v xs):SlR R sz (bF w' M') w'.heap.size v xs:=by
 have hb:Below w.heap.size (bF w M) (bF w' λk=>M k\/M' k):=by
  refine⟨h.os,h.tape,h.output,by rw[j6,j6];exact h.size,λk hk=>?_⟩;by_cases hm:M k
  ·rw[x9 hm,x9 (Or.inl hm)];have h1:k<w'.heap.size:=lQ hk h.size;simp[hk,h1]
  ·have hk':=h.keep k hk hm;rw[kF hm,kF (λe=>e.elim hm hk'.1)];exact hk'.2
 exact ((hr.keep hk hb).more hm h.size).sans hs (λ_ e=>.inr e)
def LR{α:Type}(R:a1Z α)(B n:Nat)(w:World)(e:List Value)(x:α):Prop:=∀ M:Nat->Prop,(∀ k,M k->B<=k/\k<n)->R (bF w M) w.heap.size e x
def il{α:Type}(R:a1Z α)(sz B n:Nat)(w:World)(v:Value)(xs:List α):Prop:=∀ M:Nat->Prop,(∀ k,M k->B<=k/\k<n)->SlR R sz (bF w M) w.heap.size v xs
theorem LR.all{α:Type}{R:a1Z α}{B n:Nat}{w:World}{e:List Value}{x:α}(h:LR R B n w e x)(hs:iJ R):R w w.heap.size e x:=hs.all (h (λ_=>False) (λ_ e=>e.elim))
theorem il.all{α:Type}{R:a1Z α}{sz B n:Nat}{w:World}{v:Value}{xs:List α}(h:il R sz B n w v xs)(hs:iJ R):SlR R sz w w.heap.size v xs:=(h (λ_=>False) (λ_ e=>e.elim)).all hs
end
section
open Go.RowKit Go.Shelf
attribute [local go_sem] Oper.semAt_some
structure CV where
 host:Int
 frm:Int
 til:Int
 str:ByteArray
 A:Option Addr
 n:Nat
 c:Nat
def CV.cells(x:CV):Array Value:=#[.int .i64 x.host,.int .i64 x.frm,.int .i64 x.til,.string x.str,.slice x.A x.n x.c]
structure CVOf(w:World)(B:Nat)(x:CV)(c:Np.Copy):Prop where
 host:x.host=c.host
 frm:x.frm=c.frm
 til:x.til=c.til
 apex:x.str.data.toList=c.zone.apex
 size:x.str.size<=140737488355328
 sets:SlR bO 5 w B (.slice x.A x.n x.c) c.zone.sets
 len:c.zone.sets.length=x.n
theorem CVOf.keep{w w':World}{B:Nat}{x:CV}{c:Np.Copy}(h:CVOf w B x c)(hb:Below B w w'):CVOf w' B x c:=⟨h.host,h.frm,h.til,h.apex,h.size,h.sets.keep bj hb,h.len⟩
theorem CVOf.more{w:World}{B B':Nat}{x:CV}{c:Np.Copy}(h:CVOf w B x c)(hb:B<=B'):CVOf w B' x c:=⟨h.host,h.frm,h.til,h.apex,h.size,h.sets.more cC hb,h.len⟩
theorem WT{w:World}{B n c:Nat}{A:Option Addr}{xs:List Np.Copy}(h:SlR my 5 w B (.slice A n c) xs):∃ L:List (CV×Np.Copy),L.map (·.2)=xs/\L.length=n/\∀ i x,L[i]?=some x->CVOf w B x.1 x.2/\∃ b o,A=some ⟨b,o,none⟩/\b<B/\eh w b (o+i * 5) x.1.cells.toList:=by
 have hn:n=xs.length:=by
  obtain⟨A',c',hA,_,_,_⟩:=h;simp only[Value.slice.injEq] at hA;exact hA.2.1
 have bX:∀ k,k<=xs.length->∃ L:List (CV×Np.Copy),L.map (·.2)=xs.take k/\∀ i x,L[i]?=some x->CVOf w B x.1 x.2/\∃ b o,A=some ⟨b,o,none⟩/\b<B/\eh w b (o+i * 5) x.1.cells.toList:=by
  intro k
  induction k with
  | zero=>exact λ_=>⟨[],by simp,λi x hx=>by simp at hx⟩
  | succ k ih=>
   intro hk;obtain⟨L,h1,h2⟩:=ih (by omega);have hlen:L.length=k:=by have:=Qd List.length h1;simp at this;omega
   obtain⟨b,o,s,v,hA,hb,hs,an,hv,f0,f1,f2,f3,f4⟩:=t8 h (aQ (by omega:k<xs.length));obtain⟨Az,cz,rfl,_,_⟩:=ak hv;refine⟨L ++ [(⟨xs[k].host,xs[k].frm,xs[k].til,s,Az,xs[k].zone.sets.length,cz⟩,xs[k])],by rw[List.map_append,h1,fQ (by omega)];rfl,λi x hx=>?_⟩;rcases Nat.lt_or_ge i L.length with ab | nP
   ·rw[List.getElem?_append_left ab] at hx;exact h2 i x hx
   ·rw[oQ nP] at hx;have h0:i - L.length=0:=by have:=(cQ.1 hx).1;simp at this;omega
    rw[h0] at hx;simp at hx;subst hx;obtain rfl:i=k:=by omega
    refine⟨⟨rfl,rfl,rfl,hs,an,hv,rfl⟩,b,o,hA,hb,λj u hj=>?_⟩
    match j,hj with
    | 0,hj=>simp[CV.cells] at hj;subst hj;exact f0
    | 1,hj=>simp[CV.cells] at hj;subst hj;exact f1
    | 2,hj=>simp[CV.cells] at hj;subst hj;exact f2
    | 3,hj=>simp[CV.cells] at hj;subst hj;exact f3
    | 4,hj=>simp[CV.cells] at hj;subst hj;exact f4
    | j+5,hj=>simp[CV.cells] at hj
 obtain⟨L,h1,h2⟩:=bX xs.length (bQ _);rw[List.take_length] at h1;exact⟨L,h1,by rw[hn,<-h1,List.length_map],h2⟩
theorem WE(a1 a2 a3 a4 a5 a6 a7 a8 a9:Value)(pf:FuncId)(caps:Array Value)(w:World) :
 Calls prog 69 #[.agg #[a1,a2,a3,a4,a5,a6,a7,a8,a9],.func (.func pf) #[] caps] w λe w'=>e = .returned (.func (.func 141) #[] #[.pointer (some ⟨w.heap.size,0,none⟩),.pointer (some ⟨w.heap.size+1,0,none⟩)])/\w'=(w.alloc (.cells #[a1,a2,a3,a4,a5,a6,a7,a8,a9] 29)).alloc (.cells #[.func (.func pf) #[] caps] 132):=by
 go_enter func69,ntmps69;go_wp2_with fail;go_ret;exact⟨rfl,rfl⟩
theorem SG{α:Type}{p:α->Bool}{L:List α}{k:Nat}{x:α}(hx:L[k]?=some x):(L.take (k+1)).filter p=if p x then (L.take k).filter p ++ [x] else (L.take k).filter p:=by
 obtain⟨hl,he⟩:=cQ.1 hx;rw[fQ hl,he,List.filter_append]
 cases h:p x <;> simp[h]
theorem SH{α:Type}(p:α->Bool)(L:List α)(k:Nat):(L.take k).filter p <+: L.filter p:=by
 conv => rhs;rw[<-List.take_append_drop k L]
 rw[List.filter_append];exact List.prefix_append _ _
theorem WG(L:List (CV×Np.Copy))(p:CV×Np.Copy->Bool)(pf:FuncId)(caps:Array Value)(X Ob n c:Nat)(Dr:Nat->Prop)(A:Option Addr)(w:World)(hX:Dr X)(hO:Dr Ob)(kX:w.cell? ⟨X,1,none⟩=some (.slice A n c))(kO:w.cell? ⟨Ob,0,none⟩=some (.func (.func pf) #[] caps))(BJ:L.length=n)(EY:n<=500)
 (hL:∀ i x,L[i]?=some x->∃ b o,A=some ⟨b,o,none⟩/\Dr b/\eh w b (o+i * 5) x.1.cells.toList) (eg:∀ args w,(callFunc pf args).run prog w = .ok (.enter pf args) w)
 (hp:∀ x∈L,∀ W,fe Dr w W->Calls prog pf (#[.agg x.1.cells]++caps) W λe W'=>e = .returned (.bool (p x))/\Below W.heap.size W W') :
 Bi prog 141 (λy=>#[y,.pointer (some ⟨X,0,none⟩),.pointer (some ⟨Ob,0,none⟩)]) (λx:CV×Np.Copy=>#[.agg x.1.cells]) (L.filter p) Dr w:=by
 intro l J Jx S W hW hJ Es hY hS hS' h0;have k1:=(hW.cell (p:=⟨X,1,none⟩) hX).trans kX;have HW:=jq hW;have HL:=jq hL;have HP:=jq hp;have jm:=jq BJ;have KO:=jq kO;have sD:=hW.1;clear hW hL hp kX BJ kO;refine callsIn_of_wp func141 rfl trivial ?_ rfl;simp only[ntmps141,List.size_toArray,List.length_cons,List.length_nil,Nat.reduceAdd,Nat.reduceSub,Array.replicate_succ,Array.replicate_zero,List.push_toArray,List.append_toArray,List.nil_append,List.cons_append];gi_wp2_with fail;gi_loopw [9] (λi wr=>∃ (k:Nat) (S1:Nat->Prop),k<=n/\i = .int .i64 k/\J ((L.take k).filter p) S1 wr/\(∀ k,S1 k->k<wr.heap.size)/\(∀ k,S1 k->S k\/W.heap.size<=k)/\Hid (fe Dr w wr)/\W.heap.size<=wr.heap.size) (λi _=>n - (intOf i).toNat)
 case atStart=>exact⟨0,S,jQ _,rfl,by simpa using h0,hS',λ_ e=>.inl e,HW,bQ _⟩
 case round=>
  obtain⟨k,S1,hk,rfl,hj,eO,bE,bG,an⟩:=hrel;by_cases ab:k<n
  ·obtain⟨x,aa⟩:∃ x,L[k]?=some x:=⟨_,aQ (by rw[jm.out];exact ab)⟩;obtain⟨b,o,rfl,hb,hce⟩:=HL.out k x aa;have gK:fe Dr w wr:=bG.out;obtain⟨⟨xh,xf,xt,xs,xA,xn,xc⟩,cc⟩:=x;have f0:wr.cell? ⟨b,o+k * 5,none⟩=some (.int .i64 xh):=(gK.cell (p:=⟨b,o+k * 5,none⟩) hb).trans (hce 0 _ rfl);have f1:wr.cell? ⟨b,o+k * 5+1,none⟩=some (.int .i64 xf):=(gK.cell (p:=⟨b,o+k * 5+1,none⟩) hb).trans (hce 1 _ rfl);have f2:wr.cell? ⟨b,o+k * 5+2,none⟩=some (.int .i64 xt):=(gK.cell (p:=⟨b,o+k * 5+2,none⟩) hb).trans (hce 2 _ rfl);have f3:wr.cell? ⟨b,o+k * 5+3,none⟩=some (.string xs):=(gK.cell (p:=⟨b,o+k * 5+3,none⟩) hb).trans (hce 3 _ rfl);have f4:wr.cell? ⟨b,o+k * 5+4,none⟩=some (.slice xA xn xc):=(gK.cell (p:=⟨b,o+k * 5+4,none⟩) hb).trans (hce 4 _ rfl);have lW:=jq aa;clear hce aa;have bJ:(0:Int)<=(k:Int):=by omega
   have bI:(k:Int)<(n:Int):=by omega
   obtain⟨w2,aj⟩:=acJ (wr.alloc (.cells #[.int .i64 xh,.int .i64 xf,.int .i64 xt,.string xs,.slice xA xn xc] 46));have aN:w2.heap.size=wr.heap.size+1:=by rw[<-aj];simp
   have ac:Below wr.heap.size wr w2:=by rw[<-aj];exact (vQ _ _).alloc (bQ _) _
   have p0:w2.cell? ⟨wr.heap.size,0,none⟩=some (.int .i64 xh):=by rw[<-aj];simp[go_sem]
   have p1:w2.cell? ⟨wr.heap.size,1,none⟩=some (.int .i64 xf):=by rw[<-aj];simp[go_sem]
   have p2:w2.cell? ⟨wr.heap.size,2,none⟩=some (.int .i64 xt):=by rw[<-aj];simp[go_sem]
   have p3:w2.cell? ⟨wr.heap.size,3,none⟩=some (.string xs):=by rw[<-aj];simp[go_sem]
   have p4:w2.cell? ⟨wr.heap.size,4,none⟩=some (.slice xA xn xc):=by rw[<-aj];simp[go_sem]
   have xM:fe Dr w w2:=gK.of_below ac;have qO:=(xM.cell (p:=⟨Ob,0,none⟩) hO).trans KO.out;have ai:=jq ac;have fG:=jq xM;clear gK ac xM;gi_wp2_with fail;refine⟨trivial,rfl,?_⟩;refine (callsIn_wide.2 (HP.out _ (gQ lW.out) w2 fG.out)).mono ?_;rintro e w3 ⟨rfl,aq⟩;replace p0:=aaJ aq p0;replace p1:=aaJ aq p1;replace p2:=aaJ aq p2;replace p3:=aaJ aq p3;replace p4:=aaJ aq p4;have eR:=aq.size;have sG:Below wr.heap.size wr w3:=ai.out.trans (aq.adZ);have wV:=hJ _ _ _ _ hj (ItStep.of_below sG);have ar:=jq (bG.out.of_below sG);have HT:=jq (SG (p:=p) lW.out);clear aj aq hj qO
   cases ba:p (⟨xh,xf,xt,xs,xA,xn,xc⟩,cc) with
   | false=>
    have HX:=jq ba;clear ba sG;gi_wp2_with fail;refine⟨λ_ _=>trivial,?_⟩;gi_wp2_with fail;go_roundw
    case rel=>exact⟨k+1,S1,by omega,by go_num,by rw[HT.out,HX.out];exact wV,λk e=>by have:=eO k e;omega,bE,ar,by omega⟩
    case measure=>simp[intOf] <;> omega
   | true=>
    have HX:=jq ba;have gI:(L.take k).filter p ++ [(⟨xh,xf,xt,xs,xA,xn,xc⟩,cc)] <+: L.filter p:=by
     have h1:=HT.out;rw[HX.out,Qb rfl] at h1;rw[<-h1];exact SH p L (k+1)
    obtain⟨fn,tmps,assign,body,hy,hR⟩:=hY ((L.take k).filter p) (⟨xh,xf,xt,xs,xA,xn,xc⟩,cc) S1 w3 gI wV (λk e=>by have:=eO k e;omega) (by omega);have mP:Sem.run prog (Instr.yield l #[.agg #[.int .i64 xh,.int .i64 xf,.int .i64 xt,.string xs,.slice xA xn xc]]) w3 = .ok (.round l fn tmps assign body) w3:=hy;have AL:=jq gI;clear hy gI ba sG;gi_wp2_with fail;refine⟨rfl,hR.mono ?_⟩;rintro e w4 ⟨S4,aM,CI,J2,(⟨rfl,Jc⟩ | ⟨rfl,Jd⟩)⟩
    ·have aU:Hid (fe Dr w w4):=jq (ar.out.round aM (λk e hd=>by
      rcases bE k e with e | e
      ·exact hS k e hd
      ·have:=(HW.out.2 k hd).1;omega))
     have fl:=aM.size;clear aM mP hR;gi_wp2_with fail;go_roundw
     case rel=>
      refine⟨k+1,S4,by omega,by go_num,by rw[HT.out,HX.out];exact Jc,J2,λk e=>?_,aU,by omega⟩;rcases CI k e with e | e
      ·exact bE k e
      ·right;omega
     case measure=>simp[intOf] <;> omega
    ·have fl:=aM.size;clear aM mP hR;gi_wp2_with fail;refine bodyPost_ret (results_none rfl _ _ _) rfl ?_;refine⟨⟨_,rfl⟩,.inr ⟨_,S4,AL.out,Jd,λk e=>?_⟩⟩;rcases CI k e with e | e
     ·exact bE k e
     ·right;omega
  ·have f9:Hid (L.take k=L):=jq (kQ (by rw[jm.out];omega));rw[f9.out] at hj;gi_wp2_with fail;go_end0;exact⟨⟨_,rfl⟩,.inl ⟨S1,hj,bE⟩⟩
end
section
open Go.RowKit
theorem Xb:∀ args w,(callFunc 138 args).run prog w = .ok (.enter 138 args) w:=enters_of func138 (by kernel_rfl) rfl
theorem W8:∀ args w,(callFunc 141 args).run prog w = .ok (.enter 141 args) w:=enters_of func141 (by kernel_rfl) rfl
theorem auZ(h f u:Int)(s:ByteArray)(v:Value)(A:Option Addr)(n c:Nat)(hv:v = .slice A n c)(bz:Nat)(z:ByteArray)(w:World)(hb:bz<w.heap.size)(ht:w.cell? ⟨bz,0,none⟩=some (.string z)) :
 Calls prog 138 #[.agg #[.int .i64 h,.int .i64 f,.int .i64 u,.string s,v],.pointer (some ⟨bz,0,none⟩)] w (a0X w.heap.size w (.bool (s.data.toList == z.data.toList))):=by
 subst hv;obtain⟨W1,am⟩:=acJ (w.alloc (.cells #[.int .i64 h,.int .i64 f,.int .i64 u,.string s,.slice A n c] 46));have ay:Below w.heap.size w W1:=by rw[<-am];exact (vQ _ _).alloc (bQ _) _
 have k1:W1.cell? ⟨w.heap.size,3,none⟩=some (.string s):=by rw[<-am];simp[go_sem]
 have kt:=(ay.cell (p:=⟨bz,0,none⟩) hb).trans ht;have HB:=jq ay;obtain⟨q,hq⟩:=acJ (s.toList == z.toList);have HQ:Hid ((s.data.toList == z.data.toList)=q):=jq (by rw[<-hq,dQ,dQ]);clear ay;rw[HQ.out];go_enter func138,ntmps138;go_wp2_with fail;go_ret;exact⟨rfl,HB.out⟩
theorem cE.formL{α:Type}{R:a1Z α}{sz:Nat}{e:TypeId}{base B:Nat}{w:World}{v:Value}{xs:List α}(h:cE R sz e base B w v xs):∃ A c,v = .slice A xs.length c:=by
 obtain⟨rows,_,h2,_⟩:=h;exact zH h2
theorem cE.setLow{α:Type}{R:a1Z α}{sz:Nat}{e:TypeId}{base B:Nat}{w:World}{v:Value}{xs:List α}(h:cE R sz e base B w v xs)(hr:∀ w' r x,R w B r x->R w' B r x){p:Addr}(hp:p.block<base)(u:Value):cE R sz e base B (w.setCell p u) v xs:=by
 obtain⟨rows,h1,h2,h3⟩:=h;exact⟨rows,h1,ownsRow_setCell_below h2 hp u,λi r x hr' hx=>⟨(h3 i r x hr' hx).1,hr _ _ _ (h3 i r x hr' hx).2⟩⟩
theorem cE.sans{α:Type}{R:a1Z α}{sz:Nat}{e:TypeId}{base B:Nat}{w:World}{v:Value}{xs:List α}(h:cE R sz e base B w v xs){M:Nat->Prop}(hM:∀ k,M k->k<base)(hr:∀ r x,R w B r x->R (bF w M) B r x):cE R sz e base B (bF w M) v xs:=by
 obtain⟨rows,h1,h2,h3⟩:=h;exact⟨rows,h1,gN h2 (λg hg=>kF (λhm=>by have:=(h2.lt g hg).1;have:=hM g hm;omega)),λi r x hr' hx=>⟨(h3 i r x hr' hx).1,hr _ _ (h3 i r x hr' hx).2⟩⟩
def LS(n:Nat)(w:World)(dv sv:Value)(d:List Np.Datum)(g:List Np.Sig):Prop:=∀ M:Nat->Prop,(∀ k,M k->k<n)->SlR bR 3 (bF w M) w.heap.size dv d/\SlR cS 6 (bF w M) w.heap.size sv g
theorem Wu(s:ByteArray)(ty life:Int)(dv:Value)(d:List Np.Datum)(sv:Value)(g:List Np.Sig)(ku:d.length<=1000000)(nR:g.length<=1000000)(w:World)(hd:SlR bR 3 w w.heap.size dv d)(hg:SlR cS 6 w w.heap.size sv g) :
 Calls prog 71 #[.agg #[.string s,.int .i64 ty,.int .i64 life,dv,sv]] w λe w'=>∃ dv' sv',e = .returned (.agg #[.string s,.int .i64 ty,.int .i64 life,dv',sv'])/\LS w.heap.size w' dv' sv' d g/\Below w.heap.size w w':=by
 have HD:=jq hd;have HG:=jq hg;obtain⟨A1,c1,rfl,_,_⟩:=ak hd;obtain⟨A2,c2,rfl,_,_⟩:=ak hg;clear hd hg;obtain⟨n1,bP⟩:=acJ d.length;obtain⟨n2,cr⟩:=acJ g.length;rw[bP] at HD |-;rw[cr] at HG |-;clear bP cr;obtain⟨w1,ah⟩:=acJ ((w.alloc (.cells #[.string s,.int .i64 ty,.int .i64 life,.slice A1 n1 c1,.slice A2 n2 c2] 42)).alloc (.cells #[.string ⟨#[]⟩,.int .i64 0,.int .i64 0,.slice none 0 0,.slice none 0 0] 42));have av:Hid (Below w.heap.size w w1):=jq (by rw[<-ah];exact ((vQ _ _).alloc (bQ _) _).alloc (by simp) _);have bd:w1.heap.size=w.heap.size+2:=by rw[<-ah];simp
 obtain⟨X,hX⟩:=acJ w.heap.size;obtain⟨Y,hY⟩:=acJ (X+1);have k0:w1.cell? ⟨X,0,none⟩=some (.string s):=by rw[<-ah,<-hX];simp[go_sem]
 have k1:w1.cell? ⟨X,1,none⟩=some (.int .i64 ty):=by rw[<-ah,<-hX];simp[go_sem]
 have k2:w1.cell? ⟨X,2,none⟩=some (.int .i64 life):=by rw[<-ah,<-hX];simp[go_sem]
 have k3:w1.cell? ⟨X,3,none⟩=some (.slice A1 n1 c1):=by rw[<-ah,<-hX];simp[go_sem]
 have k4:w1.cell? ⟨X,4,none⟩=some (.slice A2 n2 c2):=by rw[<-ah,<-hX];simp[go_sem]
 have kf3:w1.frozen? ⟨X,3,none⟩=false:=by rw[<-ah,<-hX];simp[go_sem]
 have kf4:w1.frozen? ⟨X,4,none⟩=false:=by rw[<-ah,<-hX];simp[go_sem]
 have E2:w1.heap[Y]?=some (.cells #[.string ⟨#[]⟩,.int .i64 0,.int .i64 0,.slice none 0 0,.slice none 0 0] 42):=by
  rw[<-ah,<-hY,<-hX]
  have:=heap_alloc_new (w.alloc (.cells #[.string s,.int .i64 ty,.int .i64 life,.slice A1 n1 c1,.slice A2 n2 c2] 42)) (.cells #[.string ⟨#[]⟩,.int .i64 0,.int .i64 0,.slice none 0 0,.slice none 0 0] 42)
  simpa using this
 have kN:=jq hX;go_enter func71,ntmps71;go_wp2_with fail;rw[hX] at HD HG av bd;clear ah hX;refine (Ws _ d ku _ ((HD.out.keep bV av.out).more cu (by omega))).mono ?_;rintro e w2 ⟨v2,rfl,ji,ac⟩;have aN:=ac.size;replace k0:=aaJ ac k0;replace k1:=aaJ ac k1;replace k2:=aaJ ac k2;replace k3:=aaJ ac k3;replace k4:=aaJ ac k4;replace kf3:=(ac.frozen (p:=⟨X,3,none⟩) (by dsimp only;omega)).trans kf3;replace kf4:=(ac.frozen (p:=⟨X,4,none⟩) (by dsimp only;omega)).trans kf4;replace E2:=(ac.block Y (by omega)).trans E2;have eS:=jq ji;have ai:=acZ av ac;obtain⟨A3,c3,rfl⟩:=ji.formL;clear ji ac;obtain⟨n3,eu⟩:=acJ d.length;rw[eu] at eS |-;obtain⟨w3,fj⟩:=acJ (w2.setCell ⟨X,3,none⟩ (.slice A3 n3 c3));have eR:w3.heap.size=w2.heap.size:=by rw[<-fj];simp
 have ar:Hid (Below X w w3):=jq (by rw[<-fj];exact ai.out.setCell (bQ _) _);have iD:Hid (cE bR 3 128 w1.heap.size w1.heap.size w3 (.slice A3 n3 c3) d):=jq (by rw[<-fj];exact eS.out.setLow (λ_ _ _ h=>h) (by dsimp only;omega) _);have j0:w3.cell? ⟨X,0,none⟩=some (.string s):=by rw[<-fj];exact (xQ _ _ _ _ (by simp)).trans k0
 have j1:w3.cell? ⟨X,1,none⟩=some (.int .i64 ty):=by rw[<-fj];exact (xQ _ _ _ _ (by simp)).trans k1
 have j2:w3.cell? ⟨X,2,none⟩=some (.int .i64 life):=by rw[<-fj];exact (xQ _ _ _ _ (by simp)).trans k2
 have j3:w3.cell? ⟨X,3,none⟩=some (.slice A3 n3 c3):=by rw[<-fj];exact World.cell?_setCell_same _ _ _ k3
 have j4:w3.cell? ⟨X,4,none⟩=some (.slice A2 n2 c2):=by rw[<-fj];exact (xQ _ _ _ _ (by simp)).trans k4
 have jf4:w3.frozen? ⟨X,4,none⟩=false:=by rw[<-fj];exact (World.frozen?_setCell _ _ _ _).trans kf4
 have jobj:=(wQ w2 ⟨X,3,none⟩ (.slice A3 n3 c3) Y (by dsimp only;omega)).trans E2;rw[fj] at jobj;go_wp2_with fail;clear fj k0 k1 k2 k3 k4 kf3 kf4 E2;refine (Wt _ g nR _ ((HG.out.keep cg ar.out).more cY (by omega))).mono ?_;rintro e w4 ⟨v4,rfl,sW,aC⟩;have fl:=aC.size;replace j0:=aaJ aC j0;replace j1:=aaJ aC j1;replace j2:=aaJ aC j2;replace j3:=aaJ aC j3;replace j4:=aaJ aC j4;replace jf4:=(aC.frozen (p:=⟨X,4,none⟩) (by dsimp only;omega)).trans jf4;replace jobj:=(aC.block Y (by omega)).trans jobj;have DB:=jq sW;have lw:=jq (iD.out.keep bV aC (by omega));have aU:=acZ ar aC;obtain⟨A4,c4,rfl⟩:=sW.formL;clear sW aC;obtain⟨n4,eP⟩:=acJ g.length;rw[eP] at DB |-;obtain⟨w5,aX⟩:=acJ (w4.setCell ⟨X,4,none⟩ (.slice A4 n4 c4));have ik:w5.heap.size=w4.heap.size:=by rw[<-aX];simp
 have bN:Hid (Below X w w5):=jq (by rw[<-aX];exact aU.out.setCell (bQ _) _);have nt:Hid (cE cS 6 50 w3.heap.size w3.heap.size w5 (.slice A4 n4 c4) g):=jq (by rw[<-aX];exact DB.out.setLow (λ_ _ _ h=>h) (by dsimp only;omega) _);have nu:Hid (cE bR 3 128 w1.heap.size w1.heap.size w5 (.slice A3 n3 c3) d):=jq (by rw[<-aX];exact lw.out.setLow (λ_ _ _ h=>h) (by dsimp only;omega) _);have m0:w5.cell? ⟨X,0,none⟩=some (.string s):=by rw[<-aX];exact (xQ _ _ _ _ (by simp)).trans j0
 have m1:w5.cell? ⟨X,1,none⟩=some (.int .i64 ty):=by rw[<-aX];exact (xQ _ _ _ _ (by simp)).trans j1
 have m2:w5.cell? ⟨X,2,none⟩=some (.int .i64 life):=by rw[<-aX];exact (xQ _ _ _ _ (by simp)).trans j2
 have m3:w5.cell? ⟨X,3,none⟩=some (.slice A3 n3 c3):=by rw[<-aX];exact (xQ _ _ _ _ (by simp)).trans j3
 have m4:w5.cell? ⟨X,4,none⟩=some (.slice A4 n4 c4):=by rw[<-aX];exact World.cell?_setCell_same _ _ _ j4
 have mobj:=(wQ w4 ⟨X,4,none⟩ (.slice A4 n4 c4) Y (by dsimp only;omega)).trans jobj;rw[aX] at mobj;have y0:w5.cell? ⟨Y,0,none⟩=some (.string ⟨#[]⟩):=by simp[World.cell?,mobj]
 have z0:w5.frozen? ⟨Y,0,none⟩=false:=by simp[World.frozen?,mobj]
 have y1:w5.cell? ⟨Y,1,none⟩=some (.int .i64 0):=by simp[World.cell?,mobj]
 have z1:w5.frozen? ⟨Y,1,none⟩=false:=by simp[World.frozen?,mobj]
 have y2:w5.cell? ⟨Y,2,none⟩=some (.int .i64 0):=by simp[World.cell?,mobj]
 have z2:w5.frozen? ⟨Y,2,none⟩=false:=by simp[World.frozen?,mobj]
 have y3:w5.cell? ⟨Y,3,none⟩=some (.slice none 0 0):=by simp[World.cell?,mobj]
 have z3:w5.frozen? ⟨Y,3,none⟩=false:=by simp[World.frozen?,mobj]
 have y4:w5.cell? ⟨Y,4,none⟩=some (.slice none 0 0):=by simp[World.cell?,mobj]
 have z4:w5.frozen? ⟨Y,4,none⟩=false:=by simp[World.frozen?,mobj]
 go_wp2_with fail;obtain⟨W,hW⟩:=acJ (((((w5.setCell ⟨Y,0,none⟩ (.string s)).setCell ⟨Y,1,none⟩ (.int .i64 ty)).setCell ⟨Y,2,none⟩ (.int .i64 life)).setCell ⟨Y,3,none⟩ (.slice A3 n3 c3)).setCell ⟨Y,4,none⟩ (.slice A4 n4 c4));have lz:Hid (cE bR 3 128 w1.heap.size w1.heap.size W (.slice A3 n3 c3) d):=jq (by rw[<-hW];exact (((((nu.out.setLow (λ_ _ _ h=>h) (by dsimp only;omega) _).setLow (λ_ _ _ h=>h) (by dsimp only;omega) _).setLow (λ_ _ _ h=>h) (by dsimp only;omega) _).setLow (λ_ _ _ h=>h) (by dsimp only;omega) _).setLow (λ_ _ _ h=>h) (by dsimp only;omega) _));have iZ:Hid (cE cS 6 50 w3.heap.size w3.heap.size W (.slice A4 n4 c4) g):=jq (by rw[<-hW];exact (((((nt.out.setLow (λ_ _ _ h=>h) (by dsimp only;omega) _).setLow (λ_ _ _ h=>h) (by dsimp only;omega) _).setLow (λ_ _ _ h=>h) (by dsimp only;omega) _).setLow (λ_ _ _ h=>h) (by dsimp only;omega) _).setLow (λ_ _ _ h=>h) (by dsimp only;omega) _));have aV:Hid (Below X w W):=jq (by rw[<-hW];exact (((((bN.out.setCell (by dsimp only;omega) _).setCell (by dsimp only;omega) _).setCell (by dsimp only;omega) _).setCell (by dsimp only;omega) _).setCell (by dsimp only;omega) _));have Fn:W.heap.size=w5.heap.size:=by rw[<-hW];simp
 have e0:W.cell? ⟨Y,0,none⟩=some (.string s):=by rw[<-hW];simp[go_sem,y0]
 have e1:W.cell? ⟨Y,1,none⟩=some (.int .i64 ty):=by rw[<-hW];simp[go_sem,y1]
 have e2:W.cell? ⟨Y,2,none⟩=some (.int .i64 life):=by rw[<-hW];simp[go_sem,y2]
 have e3:W.cell? ⟨Y,3,none⟩=some (.slice A3 n3 c3):=by rw[<-hW];simp[go_sem,y3]
 have e4:W.cell? ⟨Y,4,none⟩=some (.slice A4 n4 c4):=by rw[<-hW];simp[go_sem,y4]
 rw[hW];refine bodyPost_ret (v:=.agg #[.string s,.int .i64 ty,.int .i64 life,.slice A3 n3 c3,.slice A4 n4 c4]) ?_ rfl ⟨_,_,rfl,λM hM=>?_,by rw[kN.out];exact aV.out⟩
 ·simp[results,results71,go_sem,e0,e1,e2,e3,e4]
 ·have h1:=(lz.out.sans (M:=M) (λk hk=>by have:=hM k hk;have:=kN.out;omega) (λ_ _ h=>h)).slr cu (by rw[j6];omega) (by omega);have h2:=(iZ.out.sans (M:=M) (λk hk=>by have:=hM k hk;have:=kN.out;omega) (λ_ _ h=>h)).slr cY (by rw[j6];omega) (by omega);rw[j6] at h1 h2;exact⟨h1,h2⟩
def Np.pB(l:List Np.Signed):Prop:=l.length<=100/\∀ x∈l,x.set.data.length<=20/\x.sigs.length<=20
theorem Xl(a:ByteArray)(v:Value)(l:List Np.Signed)(w:World)(hd:SlR bO 5 w w.heap.size v l) :
 Calls prog 72 #[.agg #[.string a,v]] w λe w'=>e = .returned (.bool (Np.yes (Np.pB l)))/\Below w.heap.size w w':=by
 obtain⟨r,hr⟩:=acJ (Np.yes (Np.pB l));rw[hr];have HR:=jq hr;have HD:=jq hd;obtain⟨A,c,rfl,bq,bM⟩:=ak hd;clear hr hd;obtain⟨X,hX⟩:=acJ w.heap.size;obtain⟨n,hn⟩:=acJ l.length;rw[hn] at HD bq bM |-;have da:=jq hn;clear hn;obtain⟨W1,am⟩:=acJ (w.alloc (.cells #[.string a,.slice A n c] 44));have aI:Below w.heap.size w W1:=by rw[<-am];exact (vQ _ _).alloc (bQ _) _
 have iS:W1.heap.size=w.heap.size+1:=by rw[<-am];simp
 have k1:W1.cell? ⟨X,1,none⟩=some (.slice A n c):=by rw[<-am,<-hX];simp[go_sem]
 rw[hX] at aI iS HD |-;have aV:=jq aI;clear aI;go_enter func72,ntmps72;go_wp2_with fail;clear am hX;go_loopw [3] (λi wr=>∃ (k:Nat),k<=n/\k<=101/\i = .int .i64 k/\Hid (Below (X+1) W1 wr)/\Hid (∀ x∈l.take k,x.set.data.length<=20/\x.sigs.length<=20)) (λi _=>n - (intOf i).toNat)
 case atStart=>exact⟨0,jQ _,jQ _,rfl,jq (vQ _ _),jq (by simp)⟩
 case round=>
  obtain⟨k,hk,Zb,rfl,bG,HQ⟩:=hrel;have HB:=acZ aV bG.out;have q1:=aaJ bG.out k1;have an:=bG.out.size;by_cases ab:k<n
  ·by_cases XQ:k<=100
   ·have JK:decide ((k:Int)<=100)=true:=adK;obtain⟨x,aa⟩:∃ x,l[k]?=some x:=⟨_,aQ (by rw[da.out];exact ab)⟩;obtain⟨b,o,c',sn,dv,sv,hA,bA,_,aw,cB,aK,aS,f0,f1,f2,f3,f4⟩:=fE (HD.out.keep bj HB.out) aa
    cases hA
    obtain⟨Ad,cd,rfl,_,_⟩:=ak aK;obtain⟨As,cs,rfl,_,_⟩:=ak aS;obtain⟨nd,mg⟩:=acJ x.set.data.length;obtain⟨ns,uy⟩:=acJ x.sigs.length;rw[mg] at f3;rw[uy] at f4;have HF:Hid (¬ (nd<=20/\ns<=20)->r=false):=jq (λh=>by
     rw[<-HR.out,<-mg,<-uy] at *;exact Np.aF λq=>h (q.2 x (gQ aa)))
    have qW:Hid (nd<=20/\ns<=20->∀ x∈l.take (k+1),x.set.data.length<=20/\x.sigs.length<=20):=jq (λh y hy=>by
     obtain⟨hl,he⟩:=cQ.1 aa;rw[fQ hl,he] at hy;rcases List.mem_append.1 hy with hy | hy
     ·exact HQ.out y hy
     ·rw[List.mem_singleton] at hy;subst hy;rw[mg,uy];exact h)
    clear aa aw aK aS mg uy;by_cases g1:20<nd
    ·have d1:decide (20<(nd:Int))=true:=adK;have HX:=jq (HF.out (by omega));clear g1;go_wp2_with fail;go_ret;exact⟨ag HX.out.symm,HB.out⟩
    ·have d1:decide (20<(nd:Int))=false:=adJ;by_cases g2:20<ns
     ·have d2:decide (20<(ns:Int))=true:=adK;have HX:=jq (HF.out (by omega));clear g1 g2;go_wp2_with fail;go_ret;exact⟨ag HX.out.symm,HB.out⟩
     ·have d2:decide (20<(ns:Int))=false:=adJ;have HX:=jq (qW.out (by omega));clear g1 g2;go_wp2_with fail;go_roundw
      case rel=>exact⟨k+1,by omega,by omega,by go_num,bG,HX⟩
      case measure=>simp[intOf] <;> omega
   ·have JK:decide ((k:Int)<=100)=false:=adJ;have lJ:decide ((n:Int)<=100)=false:=adJ;have HX:Hid (r=false):=jq (by rw[<-HR.out];exact Np.aF λq=>by have:=q.1;rw[da.out] at this;omega);go_wp2_with fail;go_ret;exact⟨ag HX.out.symm,HB.out⟩
  ·have Hz:Hid (∀ x∈l,x.set.data.length<=20/\x.sigs.length<=20):=jq (by have:=HQ.out;rwa [kQ (by rw[da.out];omega)] at this);by_cases J4:n<=100
   ·have lJ:decide ((n:Int)<=100)=true:=adK;have HX:Hid (r=true):=jq (by rw[<-HR.out];exact Np.bh ⟨by rw[da.out];exact J4,Hz.out⟩);go_wp2_with fail;go_ret;exact⟨ag HX.out.symm,HB.out⟩
   ·have lJ:decide ((n:Int)<=100)=false:=adJ;have HX:Hid (r=false):=jq (by rw[<-HR.out];exact Np.aF λq=>by have:=q.1;rw[da.out] at this;omega);go_wp2_with fail;go_ret;exact⟨ag HX.out.symm,HB.out⟩
theorem kG{α:Type}(R:a1Z α)(sz:Nat)(w:World)(B:Nat):SlR R sz w B (.slice none 0 0) []:=⟨none,0,rfl,by simp,by simp,λi x hx=>by simp at hx⟩
theorem Xu{sz:Nat}{rows:List (List Value)}(hl:∀ r∈rows,r.length=sz){i j:Nat}{r:List Value}{v:Value}(hi:rows[i]?=some r)(hj:r[j]?=some v):rows.flatten[i * sz+j]?=some v:=by
 induction rows generalizing i with
 | nil=>simp at hi
 | cons y l ih=>
  have hy:=hl y (by simp);rw[List.flatten_cons]
  cases i with
  | zero=>
   simp at hi;subst hi
   have:=(cQ.1 hj).1
   rw[Nat.zero_mul,Nat.zero_add,List.getElem?_append_left (by omega)];exact hj
  | succ i=>
   rw[oQ (by rw[hy,Nat.succ_mul];omega),hy,show (i+1) * sz+j - sz=i * sz+j by rw[Nat.succ_mul];omega];exact ih (λr hr=>hl r (mQ _ hr)) (by simpa using hi)
theorem Wb(w:World)(l:List Value)(T:TypeId):eh (w.alloc (.cells l.toArray T)) w.heap.size 0 l:=λj v hj=>by
 have h:=heap_alloc_new w (.cells l.toArray T);unfold World.cell?;rw[h,Nat.zero_add];simpa using hj
theorem Su{α:Type}{R:a1Z α}{sz:Nat}{w:World}{B b n:Nat}{xs:List α}(rows:List (List Value))(hn:xs.length=n)(hb:b<B)(hs:n<=1000)(hc:eh w b 0 rows.flatten)(hl:∀ r∈rows,r.length=sz)(hr:∀ (i:Nat) (x:α),xs[i]?=some x->∃ r,rows[i]?=some r/\R w B r x):SlR R sz w B (.slice (some ⟨b,0,none⟩) n n) xs:=by
 subst hn;refine⟨_,_,rfl,bQ _,by omega,λi x hx=>?_⟩;obtain⟨r,h1,h2⟩:=hr i x hx;exact⟨b,0,r,rfl,hb,hl r (gQ h1),λj v hj=>by
  have:=hc _ v (Xu hl h1 hj)
  rwa [Nat.zero_add] at this |-,h2⟩
theorem lk{α:Type}{R:a1Z α}{w:World}{B b:Nat}{x:α}(r:List Value)(hb:b<B)(hc:eh w b 0 r)(h:R w B r x):SlR R r.length w B (.slice (some ⟨b,0,none⟩) 1 1) [x]:=
 Su [r] rfl hb (by omega) (by simpa using hc) (by simp) (λi y hy=>by
  match i,hy with
  | 0,hy=>cases hy;exact⟨_,rfl,h⟩
  | i+1,hy=>simp at hy)
theorem Rg{α:Type}{R:a1Z α}{w:World}{B b:Nat}{x y z:α}(r s t:List Value)(hl:s.length=r.length)(eU:t.length=r.length)(hb:b<B)(hc:eh w b 0 (r++s++t))(h:R w B r x)(h2:R w B s y)(h3:R w B t z):SlR R r.length w B (.slice (some ⟨b,0,none⟩) 3 3) [x,y,z]:=
 Su [r,s,t] rfl hb (by omega) (by simpa using hc) (by simp[hl,eU]) (λi u hu=>by
  match i,hu with
  | 0,hu=>cases hu;exact⟨_,rfl,h⟩
  | 1,hu=>cases hu;exact⟨_,rfl,h2⟩
  | 2,hu=>cases hu;exact⟨_,rfl,h3⟩
  | i+3,hu=>simp at hu)
theorem eh.off{w:World}{b o:Nat}{e:List Value}(h:eh w b o e){M:Nat->Prop}(hM:¬ M b):eh (bF w M) b o e:=λj v hj=>(iQ (a:=⟨b,o+j,none⟩) (kF hM)).trans (h j v hj)
theorem VP{α:Type}{R:a1Z α}{sz:Nat}{p:Nat->Prop}{w w':World}{v:Value}{xs:List α}(h:∀ M:Nat->Prop,(∀ k,M k->p k)->SlR R sz (bF w M) w.heap.size v xs)(hk:ep R)(hm:eL R)(hb:Below w.heap.size w w'){M:Nat->Prop}(hM:∀ k,M k->p k\/w.heap.size<=k):SlR R sz (bF w' M) w'.heap.size v xs:=by
 have h1:=h (λk=>M k/\k<w.heap.size) (λk e=>(hM k e.1).resolve_right (by omega));refine (h1.keep hk ?_).more hm hb.size;refine⟨hb.os,hb.tape,hb.output,by rw[j6,j6];exact hb.size,λk hk=>?_⟩;by_cases hm:M k
 ·have h1:k<w'.heap.size:=lQ hk hb.size;rw[x9 hm,x9 (M:=λk=>M k/\k<w.heap.size) ⟨hm,hk⟩];simp[hk,h1]
 ·rw[kF hm,kF (M:=λk=>M k/\k<w.heap.size) (λe=>hm e.1)];exact hb.block k hk
theorem il.later{α:Type}{R:a1Z α}{sz n:Nat}{w w':World}{v:Value}{xs:List α}(h:il R sz 0 n w v xs)(hk:ep R)(hm:eL R)(hb:Below w.heap.size w w'){M:Nat->Prop}(hM:∀ k,M k->k<n\/w.heap.size<=k):SlR R sz (bF w' M) w'.heap.size v xs:=
 VP h hk hm hb (λk e=>(hM k e).imp (λe=>⟨jQ _,e⟩) id)
theorem il.keep{α:Type}{R:a1Z α}{sz n:Nat}{w w':World}{v:Value}{xs:List α}(h:il R sz 0 n w v xs)(hk:ep R)(hm:eL R)(hb:Below w.heap.size w w'):il R sz 0 n w' v xs:=λ_ hM=>h.later hk hm hb (λk e=>.inl (hM k e).2)
theorem il.nil{α:Type}(R:a1Z α)(sz n:Nat)(w:World):il R sz 0 n w (.slice none 0 0) []:=λ_ _=>kG _ _ _ _
theorem il.form{α:Type}{R:a1Z α}{sz n:Nat}{w:World}{v:Value}{xs:List α}(h:il R sz 0 n w v xs):∃ A c,v = .slice A xs.length c:=by
 obtain⟨A,c,rfl,_⟩:=ak (h (λ_=>False) (λ_ e=>e.elim));exact⟨_,_,rfl⟩
theorem wl{w w':World}{n:Nat}(l:List Value)(T:TypeId)(hn:w.heap.size=n)(he:w'=w.alloc (.cells l.toArray T)):eh w' n 0 l:=by subst hn;subst he;exact Wb w l T
structure OneAt(n:Nat)(w:World)(b:Nat)(l:List Value):Prop where
 lo:n<=b
 hi:b<w.heap.size
 cells:eh w b 0 l
theorem OneAt.keep{n:Nat}{w w':World}{b:Nat}{l:List Value}(h:OneAt n w b l)(hb:Below w.heap.size w w'):OneAt n w' b l:=⟨h.lo,lQ h.hi hb.size,h.cells.keep hb h.hi⟩
def ls(w:World)(X:Nat)(L:List Value):Prop:=∀ i v,L[i]?=some v->w.cell? ⟨X,i,none⟩=some v
theorem ls.keep{w w':World}{X B:Nat}{L:List Value}(h:ls w X L)(hb:Below B w w')(hX:X<B):ls w' X L:=λi v hi=>(hb.cell (p:=⟨X,i,none⟩) hX).trans (h i v hi)
theorem iq{w w':World}{X:Nat}(l:List Value)(T:TypeId)(hn:w.heap.size=X)(he:w.alloc (.cells l.toArray T)=w'):ls w' X l:=λi v hi=>by
 have:=wl l T hn he.symm i v hi
 rwa [Nat.zero_add] at this
end
section
open Go.RowKit Go.Shelf
attribute [local go_sem] Oper.semAt_some
theorem V7(n:ByteArray)(hn:n.size<=140737488355328)(ty:Int)(w:World) :
 Calls prog 207 #[.agg #[.string n,.int .i64 ty]] w λe w'=>e = .returned (.bool (Np.aD n.data.toList&&(decide (1<=ty)&&decide (ty<=8))))/\Below w.heap.size w w':=by
 obtain⟨X,hX⟩:=acJ w.heap.size;obtain⟨w1,ah⟩:=acJ (w.alloc (.cells #[.string n,.int .i64 ty] 31));have hb:Below w.heap.size w w1:=by rw[<-ah];exact (vQ _ _).alloc (bQ _) _
 have bd:w1.heap.size=X+1:=by rw[<-ah,<-hX];simp
 have av:=jq hb;have k0:w1.cell? ⟨X,0,none⟩=some (.string n):=by rw[<-ah,<-hX];simp[go_sem]
 have k1:w1.cell? ⟨X,1,none⟩=some (.int .i64 ty):=by rw[<-ah,<-hX];simp[go_sem]
 clear hb;go_enter func207,ntmps207;go_wp2_with fail
 try clear ah
 refine (nameValid_any n hn w1).mono ?_;rintro e w2 ⟨rfl,hb⟩;replace k1:=aaJ hb k1;have ai:=acZ av hb;clear hb k0;obtain⟨r,hr⟩:=acJ (Np.aD n.data.toList);have HR:=jq hr;rw[hr];clear hr
 cases r with
 | false=>
  go_wp2_with fail;exact bodyPost_ret (v:=.bool false) (by simp[results,results207,go_sem]) rfl ⟨by rw[HR.out];rfl,ai.out⟩
 | true=>
  by_cases h1:1<=ty
  ·have jJ:decide (1<=ty)=true:=uQ h1;go_wp2_with fail;exact bodyPost_ret (v:=.bool (decide (ty<=8))) (by simp[results,results207,go_sem]) rfl ⟨by rw[HR.out,jJ];rfl,ai.out⟩
  ·have jJ:decide (1<=ty)=false:=tQ h1;go_wp2_with fail;exact bodyPost_ret (v:=.bool false) (by simp[results,results207,go_sem]) rfl ⟨by rw[HR.out,jJ];rfl,ai.out⟩
theorem V8(t:Int)(w:World):Calls prog 208 #[.int .i64 t] w λe w'=>e = .returned (.bool (decide (0<=t)&&decide (t<=20000000)))/\w'=w:=by
 by_cases h1:0<=t
 ·have jJ:decide (0<=t)=true:=uQ h1;go_enter func208,ntmps208;go_wp2_with fail;exact bodyPost_ret (v:=.bool (decide (t<=20000000))) (by simp[results,results208,go_sem]) rfl ⟨by first | rfl | (rw[jJ];rfl),rfl⟩
 ·have jJ:decide (0<=t)=false:=tQ h1;go_enter func208,ntmps208;go_wp2_with fail;exact bodyPost_ret (v:=.bool false) (by simp[results,results208,go_sem]) rfl ⟨by first | rfl | (rw[jJ];rfl),rfl⟩
theorem V9(w:World):Calls prog 76 #[.agg #[.slice none 0 0]] w (a0X w.heap.size w (.bool true)):=by
 obtain⟨w1,ah⟩:=acJ ((w.alloc (.cells #[.slice none 0 0] 76)).alloc (.map #[] 0));have HB:Hid (Below w.heap.size w w1):=jq (by rw[<-ah];exact ((vQ _ _).alloc (bQ _) _).alloc (by simp) _);have k0:w1.cell? ⟨w.heap.size,0,none⟩=some (.slice none 0 0):=by rw[<-ah];simp[go_sem]
 have mf:∀ (w:World),(Instr.makeMap 219 none).run prog w = .ok (.map (some w.heap.size)) (w.alloc (.map #[] 0)):=λw=>by
  simp[Instr.makeMap,Result.andThen]
 go_enter func76,ntmps76;go_wp2_with fail;clear mf;go_loopw [14] (λi wr=>i = .int .i64 0/\Hid (Below w.heap.size w wr)) (λi _=>0)
 case atStart=>exact⟨rfl,HB⟩
 case round=>
  obtain⟨rfl,HR⟩:=hrel;go_wp2_with fail;exact bodyPost_ret (v:=.bool true) (by simp[results,results76,go_sem]) rfl ⟨rfl,HR.out⟩
theorem aQY(w:World):Calls prog 209 #[.agg #[.slice none 0 0],.int .i64 0] w λe w'=>e = .returned (.func (.func 281) #[] #[.pointer (some ⟨w.heap.size,0,none⟩),.pointer (some ⟨w.heap.size+1,0,none⟩)])/\w'=(w.alloc (.cells #[.slice none 0 0] 76)).alloc (.cells #[.int .i64 0] 3):=by
 go_enter func209,ntmps209;go_wp2_with fail;go_ret;exact⟨rfl,rfl⟩
theorem Xc:∀ args w,(callFunc 281 args).run prog w = .ok (.enter 281 args) w:=enters_of func281 (by kernel_rfl) rfl
theorem aRQ(X T:Nat)(Dr:Nat->Prop)(w:World)(hX:Dr X)(kX:w.cell? ⟨X,0,none⟩=some (.slice none 0 0)) :
 Bi prog 281 (λy=>#[y,.pointer (some ⟨X,0,none⟩),.pointer (some ⟨T,0,none⟩)]) (λ_:Unit=>#[.int .i64 0]) [] Dr w:=by
 intro l J Jx S W hW hJ Es hY hS hS' h0;have k1:=(hW.cell (p:=⟨X,0,none⟩) hX).trans kX;clear hW kX;refine callsIn_of_wp func281 rfl trivial ?_ rfl;simp only[ntmps281,List.size_toArray,List.length_cons,List.length_nil,Nat.reduceAdd,Nat.reduceSub,Array.replicate_succ,Array.replicate_zero,List.push_toArray,List.append_toArray,List.nil_append,List.cons_append];gi_wp2_with fail;gi_loopw [9] (λi wr=>i = .int .i64 0/\J [] S wr) (λ_ _=>0)
 case atStart=>exact⟨rfl,h0⟩
 case round=>
  obtain⟨rfl,hj⟩:=hrel;gi_wp2_with fail;go_end0;exact⟨⟨_,rfl⟩,.inl ⟨S,hj,λ_ e=>.inl e⟩⟩
theorem V6(n:ByteArray)(hn:n.size<=140737488355328)(ty:Int)(w:World):Calls prog 126 #[.agg #[.slice none 0 0],.agg #[.string n,.int .i64 ty],.int .i64 0] w λe w'=>e = .returned (.tuple #[.agg #[.string ⟨#[]⟩,.int .i64 0,.int .i64 0,.slice none 0 0,.slice none 0 0,.string ⟨#[]⟩,.int .i64 0],.bool false,.int .i64 (if (Np.aD n.data.toList&&(decide (1<=ty)&&decide (ty<=8)))=true then 0 else 1)])/\Below w.heap.size w w':=by
 obtain⟨r,hr⟩:=acJ (Np.aD n.data.toList&&(decide (1<=ty)&&decide (ty<=8)));have sj:=jq hr;rw[hr];clear hr;obtain⟨X,hX⟩:=acJ w.heap.size;obtain⟨w1,ah⟩:=acJ (((((w.alloc (.cells #[.slice none 0 0] 76)).alloc (.cells #[.string n,.int .i64 ty] 31)).alloc (.cells #[.string ⟨#[]⟩,.int .i64 0,.int .i64 0,.slice none 0 0,.slice none 0 0,.string ⟨#[]⟩,.int .i64 0] 83)).alloc (.cells #[.bool false] 4)).alloc (.cells #[.int .i64 0] 37));have bd:w1.heap.size=X+5:=by rw[<-ah,<-hX];simp
 have hb:Below w.heap.size w w1:=by rw[<-ah];exact (((((vQ _ _).alloc (bQ _) _).alloc (by simp) _).alloc (by simp <;> omega) _).alloc (by simp <;> omega) _).alloc (by simp <;> omega) _
 have k0:w1.cell? ⟨X,0,none⟩=some (.slice none 0 0):=by rw[<-ah,<-hX];simp[go_sem]
 have k1:w1.cell? ⟨X+1,0,none⟩=some (.string n):=by rw[<-ah,<-hX];simp[go_sem]
 have k2:w1.cell? ⟨X+1,1,none⟩=some (.int .i64 ty):=by rw[<-ah,<-hX];simp[go_sem]
 have oE:w1.heap[X+1+1]?=some (.cells #[.string ⟨#[]⟩,.int .i64 0,.int .i64 0,.slice none 0 0,.slice none 0 0,.string ⟨#[]⟩,.int .i64 0] 83 (0,0)):=by
  rw[<-ah,<-hX];have h0:=heap_alloc_new ((w.alloc (.cells #[.slice none 0 0] 76)).alloc (.cells #[.string n,.int .i64 ty] 31)) (.cells #[.string ⟨#[]⟩,.int .i64 0,.int .i64 0,.slice none 0 0,.slice none 0 0,.string ⟨#[]⟩,.int .i64 0] 83);rw[Below.heap_alloc _ _ _ (by simp <;> omega),Below.heap_alloc _ _ _ (by simp <;> omega)];simpa using h0
 have oB:Boxed w1 (X+1+1+1) 4 (.bool false):=by
  rw[<-ah,<-hX];have h0:=(Boxed.new (((w.alloc (.cells #[.slice none 0 0] 76)).alloc (.cells #[.string n,.int .i64 ty] 31)).alloc (.cells #[.string ⟨#[]⟩,.int .i64 0,.int .i64 0,.slice none 0 0,.slice none 0 0,.string ⟨#[]⟩,.int .i64 0] 83)) 4 (.bool false)).alloc (.cells #[.int .i64 0] 37);simpa using h0
 have oR:Boxed w1 (X+1+1+1+1) 37 (.int .i64 0):=by
  rw[<-ah,<-hX];have h0:=Boxed.new ((((w.alloc (.cells #[.slice none 0 0] 76)).alloc (.cells #[.string n,.int .i64 ty] 31)).alloc (.cells #[.string ⟨#[]⟩,.int .i64 0,.int .i64 0,.slice none 0 0,.slice none 0 0,.string ⟨#[]⟩,.int .i64 0] 83)).alloc (.cells #[.bool false] 4)) 37 (.int .i64 0);simpa using h0
 have yC:=jq (And.intro oE (And.intro oB oR));rw[hX] at hb |-;have av:=jq hb;clear hb oE oB oR;refine (callsIn_wide (n:=0)).1 ?_;refine callsIn_of_wp_marks func126 rfl trivial ?_ rfl;simp only[ntmps126,List.size_toArray,List.length_cons,List.length_nil,Nat.reduceAdd,Nat.reduceSub,Array.replicate_succ,Array.replicate_zero,List.push_toArray,List.append_toArray,List.nil_append,List.cons_append];gi_wp2_with fail;clear ah;refine⟨trivial,rfl,?_⟩;refine (callsIn_wide.2 (V9 w1)).mono ?_;rintro e w2 ⟨rfl,hb⟩;replace k0:=aaJ hb k0;replace k1:=aaJ hb k1;replace k2:=aaJ hb k2;have ai:=acZ av hb;have eS:=jq hb;have aN:=hb.size;clear hb;gi_wp2_with fail;refine⟨trivial,rfl,?_⟩;refine (callsIn_wide.2 (V7 n hn ty w2)).mono ?_;rw[sj.out];rintro e w3 ⟨rfl,hb⟩;replace k0:=aaJ hb k0;have ar:=acZ ai hb;have iD:=acZ eS hb;have eR:=hb.size;clear hb k1 k2
 cases r with
 | false=>
  have oE:=(iD.out.block (X+1+1) (by omega)).trans yC.out.1;have oB:Boxed w3 (X+1+1+1) 4 (.bool false):=a0J yC.out.2.1 iD.out;have oR:Boxed w3 (X+1+1+1+1) 37 (.int .i64 0):=a0J yC.out.2.2 iD.out;have y0:w3.cell? ⟨X+1+1,0,none⟩=some (.string ⟨#[]⟩):=by simp[World.cell?,oE]
  have z0:w3.frozen? ⟨X+1+1,0,none⟩=false:=by simp[World.frozen?,oE]
  have y1:w3.cell? ⟨X+1+1,1,none⟩=some (.int .i64 0):=by simp[World.cell?,oE]
  have z1:w3.frozen? ⟨X+1+1,1,none⟩=false:=by simp[World.frozen?,oE]
  have y2:w3.cell? ⟨X+1+1,2,none⟩=some (.int .i64 0):=by simp[World.cell?,oE]
  have z2:w3.frozen? ⟨X+1+1,2,none⟩=false:=by simp[World.frozen?,oE]
  have y3:w3.cell? ⟨X+1+1,3,none⟩=some (.slice none 0 0):=by simp[World.cell?,oE]
  have z3:w3.frozen? ⟨X+1+1,3,none⟩=false:=by simp[World.frozen?,oE]
  have y4:w3.cell? ⟨X+1+1,4,none⟩=some (.slice none 0 0):=by simp[World.cell?,oE]
  have z4:w3.frozen? ⟨X+1+1,4,none⟩=false:=by simp[World.frozen?,oE]
  have y5:w3.cell? ⟨X+1+1,5,none⟩=some (.string ⟨#[]⟩):=by simp[World.cell?,oE]
  have z5:w3.frozen? ⟨X+1+1,5,none⟩=false:=by simp[World.frozen?,oE]
  have y6:w3.cell? ⟨X+1+1,6,none⟩=some (.int .i64 0):=by simp[World.cell?,oE]
  have z6:w3.frozen? ⟨X+1+1,6,none⟩=false:=by simp[World.frozen?,oE]
  have bb:=oB.cell;have cb:=oB.frozen;have be:=oR.cell;have ce:=oR.frozen;clear oE oB oR k0;gi_wp2_with fail;refine⟨trivial,?_⟩;gi_wp2_with fail;obtain⟨WF,gF⟩:=acJ ((((((((((w3.setCell ⟨X+1+1,0,none⟩ (.string ⟨#[]⟩)).setCell ⟨X+1+1,1,none⟩ (.int .i64 0)).setCell ⟨X+1+1,2,none⟩ (.int .i64 0)).setCell ⟨X+1+1,3,none⟩ (.slice none 0 0)).setCell ⟨X+1+1,4,none⟩ (.slice none 0 0)).setCell ⟨X+1+1,5,none⟩ (.string ⟨#[]⟩)).setCell ⟨X+1+1,6,none⟩ (.int .i64 0))).setCell ⟨X+1+1+1,0,none⟩ (.bool false)).setCell ⟨X+1+1+1+1,0,none⟩ (.int .i64 1));have mt:Hid (Below X w WF):=jq (by rw[<-gF];exact (((((((((ar.out.setCell (by dsimp only;omega) _).setCell (by dsimp only;omega) _).setCell (by dsimp only;omega) _).setCell (by dsimp only;omega) _).setCell (by dsimp only;omega) _).setCell (by dsimp only;omega) _).setCell (by dsimp only;omega) _).setCell (by dsimp only;omega) _).setCell (by dsimp only;omega) _));have Fl:WF.heap.size=w3.heap.size:=by rw[<-gF];simp[World.setCell]
  have e0:WF.cell? ⟨X+1+1,0,none⟩=some (.string ⟨#[]⟩):=by rw[<-gF];simp[go_sem,y0]
  have e1:WF.cell? ⟨X+1+1,1,none⟩=some (.int .i64 0):=by rw[<-gF];simp[go_sem,y1]
  have e2:WF.cell? ⟨X+1+1,2,none⟩=some (.int .i64 0):=by rw[<-gF];simp[go_sem,y2]
  have e3:WF.cell? ⟨X+1+1,3,none⟩=some (.slice none 0 0):=by rw[<-gF];simp[go_sem,y3]
  have e4:WF.cell? ⟨X+1+1,4,none⟩=some (.slice none 0 0):=by rw[<-gF];simp[go_sem,y4]
  have e5:WF.cell? ⟨X+1+1,5,none⟩=some (.string ⟨#[]⟩):=by rw[<-gF];simp[go_sem,y5]
  have e6:WF.cell? ⟨X+1+1,6,none⟩=some (.int .i64 0):=by rw[<-gF];simp[go_sem,y6]
  have eb:WF.cell? ⟨X+1+1+1,0,none⟩=some (.bool false):=by rw[<-gF];simp[go_sem,bb]
  have ee:WF.cell? ⟨X+1+1+1+1,0,none⟩=some (.int .i64 1):=by rw[<-gF];simp[go_sem,be]
  rw[gF];exact kV (v:=.tuple #[.agg #[.string ⟨#[]⟩,.int .i64 0,.int .i64 0,.slice none 0 0,.slice none 0 0,.string ⟨#[]⟩,.int .i64 0],.bool false,.int .i64 1]) (by simp[results,results126,go_sem,e0,e1,e2,e3,e4,e5,e6,eb,ee]) ⟨rfl,mt.out⟩
 | true=>
  gi_wp2_with fail;refine⟨trivial,rfl,?_⟩;refine (callsIn_wide.2 (V8 0 w3)).mono ?_;rintro e w4 ⟨rfl,h4⟩;rw[h4];clear h4 w4;gi_wp2_with fail;refine⟨trivial,rfl,?_⟩;refine (callsIn_wide.2 (aQY w3)).mono ?_;rintro e w6 ⟨rfl,ct⟩;have aW:Below w3.heap.size w3 w6:=by rw[ct];exact ((vQ _ _).alloc (bQ _) _).alloc (by simp) _
  have kX:w6.cell? ⟨w3.heap.size,0,none⟩=some (.slice none 0 0):=by rw[ct];simp[go_sem]
  have iy:w6.heap.size=w3.heap.size+2:=by rw[ct];simp
  have vH:=jq (aRQ w3.heap.size (w3.heap.size+1) (λk=>k<w6.heap.size) w6 (by omega) kX);have dl:=acZ ar aW;have qV:=acZ iD aW;have Nn:=jq iy;clear ct kX aW k0;gi_wp2_with fail;refine F7 (Dr:=λk=>k<w6.heap.size) (w0:=w6) (first:=#[]) (captured:=#[.pointer (some ⟨w3.heap.size,0,none⟩),.pointer (some ⟨w3.heap.size+1,0,none⟩)]) (gf:=281) rfl Xc (mk:=λy=>#[y,.pointer (some ⟨w3.heap.size,0,none⟩),.pointer (some ⟨w3.heap.size+1,0,none⟩)]) (λ_=>rfl)
   vH.out (fe.refl λk e=>e) (λ_=>rfl) (λ_ _ W=>Below w6.heap.size w6 W) (λ_ _ _ _=>False)
   (λs S W W' h aB=>wh h aB (bQ _) (bQ _)) (λc s S W W' h _=>h)
   (λk=>False) (λk h _=>h) (λk h=>h.elim) (vQ _ _) ?round ?done ?stop
  case stop=>
   rintro D c pre S W hD gW bE gI h hK;exact h.elim
  case round=>
   rintro l0 pre x S W ba hI fR;exact absurd ba (by simp)
  case done=>
   rintro D S W hD gW bE hI hK;have oE:=(hI.block (X+1+1) (by omega)).trans ((qV.out.block (X+1+1) (by omega)).trans yC.out.1);have oB:Boxed W (X+1+1+1) 4 (.bool false):=cU (a0J yC.out.2.1 qV.out) hI (by omega);have oR:Boxed W (X+1+1+1+1) 37 (.int .i64 0):=cU (a0J yC.out.2.2 qV.out) hI (by omega);have Fn:=hI.size;have y0:W.cell? ⟨X+1+1,0,none⟩=some (.string ⟨#[]⟩):=by simp[World.cell?,oE]
   have z0:W.frozen? ⟨X+1+1,0,none⟩=false:=by simp[World.frozen?,oE]
   have y1:W.cell? ⟨X+1+1,1,none⟩=some (.int .i64 0):=by simp[World.cell?,oE]
   have z1:W.frozen? ⟨X+1+1,1,none⟩=false:=by simp[World.frozen?,oE]
   have y2:W.cell? ⟨X+1+1,2,none⟩=some (.int .i64 0):=by simp[World.cell?,oE]
   have z2:W.frozen? ⟨X+1+1,2,none⟩=false:=by simp[World.frozen?,oE]
   have y3:W.cell? ⟨X+1+1,3,none⟩=some (.slice none 0 0):=by simp[World.cell?,oE]
   have z3:W.frozen? ⟨X+1+1,3,none⟩=false:=by simp[World.frozen?,oE]
   have y4:W.cell? ⟨X+1+1,4,none⟩=some (.slice none 0 0):=by simp[World.cell?,oE]
   have z4:W.frozen? ⟨X+1+1,4,none⟩=false:=by simp[World.frozen?,oE]
   have y5:W.cell? ⟨X+1+1,5,none⟩=some (.string ⟨#[]⟩):=by simp[World.cell?,oE]
   have z5:W.frozen? ⟨X+1+1,5,none⟩=false:=by simp[World.frozen?,oE]
   have y6:W.cell? ⟨X+1+1,6,none⟩=some (.int .i64 0):=by simp[World.cell?,oE]
   have z6:W.frozen? ⟨X+1+1,6,none⟩=false:=by simp[World.frozen?,oE]
   have bb:=oB.cell;have cb:=oB.frozen;have be:=oR.cell;have ce:=oR.frozen;have aV:=acZ dl hI;have qL:=jq hK;clear oE oB oR hI hK;gi_wp2_with fail;obtain⟨WF,gF⟩:=acJ ((((((((((W.setCell ⟨X+1+1,0,none⟩ (.string ⟨#[]⟩)).setCell ⟨X+1+1,1,none⟩ (.int .i64 0)).setCell ⟨X+1+1,2,none⟩ (.int .i64 0)).setCell ⟨X+1+1,3,none⟩ (.slice none 0 0)).setCell ⟨X+1+1,4,none⟩ (.slice none 0 0)).setCell ⟨X+1+1,5,none⟩ (.string ⟨#[]⟩)).setCell ⟨X+1+1,6,none⟩ (.int .i64 0))).setCell ⟨X+1+1+1,0,none⟩ (.bool false)).setCell ⟨X+1+1+1+1,0,none⟩ (.int .i64 0));have mt:Hid (Below X w WF):=jq (by rw[<-gF];exact (((((((((aV.out.setCell (by dsimp only;omega) _).setCell (by dsimp only;omega) _).setCell (by dsimp only;omega) _).setCell (by dsimp only;omega) _).setCell (by dsimp only;omega) _).setCell (by dsimp only;omega) _).setCell (by dsimp only;omega) _).setCell (by dsimp only;omega) _).setCell (by dsimp only;omega) _));have Fl:WF.heap.size=W.heap.size:=by rw[<-gF];simp[World.setCell]
   have e0:WF.cell? ⟨X+1+1,0,none⟩=some (.string ⟨#[]⟩):=by rw[<-gF];simp[go_sem,y0]
   have e1:WF.cell? ⟨X+1+1,1,none⟩=some (.int .i64 0):=by rw[<-gF];simp[go_sem,y1]
   have e2:WF.cell? ⟨X+1+1,2,none⟩=some (.int .i64 0):=by rw[<-gF];simp[go_sem,y2]
   have e3:WF.cell? ⟨X+1+1,3,none⟩=some (.slice none 0 0):=by rw[<-gF];simp[go_sem,y3]
   have e4:WF.cell? ⟨X+1+1,4,none⟩=some (.slice none 0 0):=by rw[<-gF];simp[go_sem,y4]
   have e5:WF.cell? ⟨X+1+1,5,none⟩=some (.string ⟨#[]⟩):=by rw[<-gF];simp[go_sem,y5]
   have e6:WF.cell? ⟨X+1+1,6,none⟩=some (.int .i64 0):=by rw[<-gF];simp[go_sem,y6]
   have eb:WF.cell? ⟨X+1+1+1,0,none⟩=some (.bool false):=by rw[<-gF];simp[go_sem,bb]
   have ee:WF.cell? ⟨X+1+1+1+1,0,none⟩=some (.int .i64 0):=by rw[<-gF];simp[go_sem,be]
   rw[gF];have XW:WF.heap[D]?=some (.deferred (some [])):=by
    rw[<-gF];simp only[World.setCell,Array.getElem?_modify];simp[show X+1+1≠D by omega,show X+1+1+1≠D by omega,show X+1+1+1+1≠D by omega,qL.out]
   have q:∀ b o v,WF.cell? ⟨b,o,none⟩=some v->b≠D->(WF.putObj D (.deferred none)).cell? ⟨b,o,none⟩=some v:=λb o v h hb=>(iQ (zQ hb)).trans h;refine nJ XW (v:=.tuple #[.agg #[.string ⟨#[]⟩,.int .i64 0,.int .i64 0,.slice none 0 0,.slice none 0 0,.string ⟨#[]⟩,.int .i64 0],.bool false,.int .i64 0]) (by simp[results,results126,go_sem,q _ _ _ e0 (by omega),q _ _ _ e1 (by omega),q _ _ _ e2 (by omega),q _ _ _ e3 (by omega),q _ _ _ e4 (by omega),q _ _ _ e5 (by omega),q _ _ _ e6 (by omega),q _ _ _ eb (by omega),q _ _ _ ee (by omega)]) ⟨rfl,mA mt.out (by omega) _⟩
theorem Np.awK{n:List UInt8}{ty:Int} : (Np.aD n&&(decide (1<=ty)&&decide (ty<=8)))=true↔Np.QOk n ty:=by
 unfold Np.QOk;simp only[Bool.and_eq_true,Qa]
theorem Zu(n:ByteArray)(hn:n.size<=140737488355328)(ty:Int)(w:World):Calls prog 57 #[.agg #[.string n,.int .i64 ty]] w (a0X w.heap.size w (.bool (Np.yes (Np.QOk n.data.toList ty)))):=by
 obtain⟨r,hr⟩:=acJ (Np.aD n.data.toList&&(decide (1<=ty)&&decide (ty<=8)));have sj:=jq hr;have Vh:Hid (Np.yes (Np.QOk n.data.toList ty)=r):=jq (by rw[Bool.eq_iff_iff,Np.fq,<-hr,Np.awK]);rw[Vh.out];clear hr;obtain⟨w1,ah⟩:=acJ (w.alloc (.cells #[.string n,.int .i64 ty] 31));have hb:Below w.heap.size w w1:=by rw[<-ah];exact (vQ _ _).alloc (bQ _) _
 have k0:w1.cell? ⟨w.heap.size,0,none⟩=some (.string n):=by rw[<-ah];simp[go_sem]
 have k1:w1.cell? ⟨w.heap.size,1,none⟩=some (.int .i64 ty):=by rw[<-ah];simp[go_sem]
 have av:=jq hb;clear hb;go_enter func57,ntmps57;go_wp2_with fail;clear ah;refine (V6 n hn ty w1).mono ?_;rw[sj.out];rintro e w2 ⟨rfl,hb⟩;have ai:=jq (av.out.trans (hb.mono av.out.size));have aN:=ai.out.size;clear hb k0 k1
 cases r with
 | false=>
  go_wp2_with fail;exact bodyPost_ret (v:=.bool false) (by simp[results,results57,go_sem]) rfl ⟨rfl,ai.out.alloc (by omega) _⟩
 | true=>
  go_wp2_with fail;exact bodyPost_ret (v:=.bool true) (by simp[results,results57,go_sem]) rfl ⟨rfl,ai.out.alloc (by omega) _⟩
end
section
open Go.RowKit
theorem FX{α:Type}{R:a1Z α}{sz:Nat}{w:World}{B n c:Nat}{A:Option Addr}{xs:List α}(h:SlR R sz w B (.slice A n c) xs):xs.length=n:=by
 obtain⟨A',c',h1,_⟩:=ak h;simp only[Value.slice.injEq] at h1;exact h1.2.1.symm
def Np.fH(e:Np.Ent22):List UInt8×Int×List UInt8:=(e.signed.set.name,e.signed.set.type,e.zone)
theorem Np.NH{a b:Np.Ent22} : Np.CT a b↔Np.fH a=Np.fH b:=by
 unfold Np.CT Np.fH;rw[Prod.mk.injEq,Prod.mk.injEq]
def Np.pz(l:List Np.Ent22):Prop:=(∀ e∈l,Np.EntOk e)/\l.Pairwise λa b=>¬ Np.CT a b
theorem Np.zR{l:List Np.Ent22} : Np.VCache l↔l.length<=400/\Np.pz l:=⟨λh=>⟨h.few,h.each,h.apart⟩,λh=>⟨h.1,h.2.1,h.2.2⟩⟩
theorem Np.OA:Np.pz []:=⟨λ_ h=>(Qh h).elim,List.Pairwise.nil⟩
theorem Np.Oz{k:Nat}{l:List Np.Ent22}{x:Np.Ent22}(hx:l[k]?=some x)(h:Np.pz l):Np.EntOk x/\Np.fH x∉(l.take k).map Np.fH:=by
 refine⟨h.1 x (gQ hx),λhm=>?_⟩;obtain⟨y,hy,he⟩:=List.mem_map.1 hm;have h1:(l.take k ++ [x]).Pairwise λa b=>¬ Np.CT a b:=by
  obtain⟨hl,he⟩:=cQ.1 hx
  have:l.take k ++ [x]=l.take (k+1):=by rw[fQ hl,he]
  rw[this];exact h.2.sublist (List.take_sublist _ _)
 exact (List.pairwise_append.1 h1).2.2 y hy x (by simp) (Np.NH.2 he)
theorem Np.OB{k:Nat}{l:List Np.Ent22}{x:Np.Ent22}(hx:l[k]?=some x)(h:Np.pz (l.take k))(h1:Np.EntOk x)(h2:Np.fH x∉(l.take k).map Np.fH):Np.pz (l.take (k+1)):=by
 obtain⟨hl,he⟩:=cQ.1 hx;have ht:l.take (k+1)=l.take k ++ [x]:=by rw[fQ hl,he]
 rw[ht];refine⟨λp hp=>?_,List.pairwise_append.2 ⟨h.2,by simp,λy hy z hz Fi=>?_⟩⟩
 ·rcases List.mem_append.1 hp with hp | hp
  ·exact h.1 p hp
  ·rw[List.mem_singleton] at hp;subst hp;exact h1
 ·rw[List.mem_singleton] at hz;subst hz;exact h2 (List.mem_map.2 ⟨y,hy,Np.NH.1 Fi⟩)
def Np.sm(s z:List UInt8):Prop:=Np.aD s=true/\Np.aD z=true/\Np.eD z=false/\Np.bD s z=true
def Np.IG(u:Int):Prop:=1<=u/\u<=20100001
def Np.Bj(e:Np.Ent22):Prop:=(1<=e.signed.set.type/\e.signed.set.type<=8)/\(0<=e.signed.set.life/\e.signed.set.life<=100000)/\e.signed.sigs = []
theorem Np.lI{e:Np.Ent22} : Np.EntOk e↔(Np.sm e.signed.set.name e.zone/\Np.IG e.til)/\((e.signed.set.data = []/\Np.Bj e)\/(e.signed.set.data≠[]/\Np.cZ e.signed.set=true/\Np.eK e.zone e.signed.sigs)):=
 ⟨λh=>⟨⟨⟨h.name,h.zone,h.wild,h.under⟩,h.til⟩,h.kind⟩,λh=>⟨h.1.1.1,h.1.1.2.1,h.1.1.2.2.1,h.1.1.2.2.2,h.1.2,h.2⟩⟩
def Np.IF(l:List Np.Ent22):Prop:=∀ e∈l,Np.ra e.signed
def lE(W:World)(B:Nat)(e:List Value)(x:Np.Ent22):Prop:=∃ (s z:ByteArray) (dv sv:Value),s.data.toList=x.signed.set.name/\s.size<=140737488355328/\z.data.toList=x.zone/\z.size<=140737488355328/\SlR bR 3 W B dv x.signed.set.data/\SlR cS 6 W B sv x.signed.sigs/\e = [.string s,.int .i64 x.signed.set.type,.int .i64 x.signed.set.life,dv,sv,.string z,.int .i64 x.til]
theorem mq:ep lE:=λ_ _ _ _ _ ⟨s,z,dv,sv,h1,h2,h3,h4,h5,h6,h7⟩ hb=>⟨s,z,dv,sv,h1,h2,h3,h4,h5.keep bV hb,h6.keep cg hb,h7⟩
theorem uV:eL lE:=λ_ _ _ _ _ ⟨s,z,dv,sv,h1,h2,h3,h4,h5,h6,h7⟩ hb=>⟨s,z,dv,sv,h1,h2,h3,h4,h5.more cu hb,h6.more cY hb,h7⟩
theorem yU{w:World}{B n c:Nat}{A:Option Addr}{xs:List Np.Ent22}(h:SlR lE 7 w B (.slice A n c) xs){k:Nat}{x:Np.Ent22}(hx:xs[k]?=some x):∃ (b o:Nat) (s z:ByteArray) (dA:Option Addr) (dn dc:Nat) (gA:Option Addr) (gn gc:Nat),A=some ⟨b,o,none⟩/\b<B/\s.data.toList=x.signed.set.name/\s.size<=140737488355328/\z.data.toList=x.zone/\z.size<=140737488355328/\SlR bR 3 w B (.slice dA dn dc) x.signed.set.data/\SlR cS 6 w B (.slice gA gn gc) x.signed.sigs/\x.signed.set.data.length=dn/\x.signed.sigs.length=gn/\
 eh w b (o+k * 7) [.string s,.int .i64 x.signed.set.type,.int .i64 x.signed.set.life,.slice dA dn dc,.slice gA gn gc,.string z,.int .i64 x.til]:=by
 obtain⟨A',c',hA',_,_,bU⟩:=h
 cases hA'
 obtain⟨b,o,e,hA,bB,hlen,hce,s,z,dv,sv,h1,h2,h3,h4,h5,h6,he⟩:=bU k _ hx;subst he;obtain⟨dA,dc,rfl,_⟩:=ak h5;obtain⟨gA,gc,rfl,_⟩:=ak h6;exact⟨b,o,s,z,dA,_,dc,gA,_,gc,hA,bB,h1,h2,h3,h4,h5,h6,rfl,rfl,hce⟩
end
section
open Go.RowKit Go.Shelf
section
attribute [local go_sem] Oper.semAt_some
theorem aiJ(t:ByteArray)(ht:t.size<=140737488355328)(hv:Np.aD t.data.toList=false)(w:World) :
 Calls prog 187 #[.string t] w (a0X w.heap.size w (.tuple #[.slice none 0 0,.int .i64 11])):=by
 have HV:=jq hv;clear hv;refine (callsIn_wide (n:=0)).1 ?_;refine callsIn_of_wp_marks func187 rfl trivial ?_ rfl;simp only[ntmps187,List.size_toArray,List.length_cons,List.length_nil,Nat.reduceAdd,Nat.reduceSub,Array.replicate_succ,Array.replicate_zero,List.push_toArray,List.append_toArray,List.nil_append,List.cons_append];gi_wp2_with fail;refine⟨trivial,rfl,?_⟩;refine (callsIn_wide.2 (valid_any t ht _)).mono ?_;rintro e w1 ⟨rfl,ay⟩;rw[HV.out];have av:=jq ay;clear ay;gi_wp2_with fail;exact kV (v:=.tuple #[.slice none 0 0,.int .i64 11]) (by simp[results,results187,go_sem]) ⟨rfl,av.out⟩
end
theorem VU(s z:ByteArray)(hs:s.size<=140737488355328)(hz:z.size<=140737488355328)(w:World) :
 Calls prog 219 #[.string s,.string z] w (a0X w.heap.size w (.bool (Np.yes (Np.sm s.data.toList z.data.toList)))):=by
 obtain⟨r,hr⟩:=acJ (Np.yes (Np.sm s.data.toList z.data.toList));rw[hr];have HR:=jq hr;have HS:=jq hs;have HZ:=jq hz;clear hr hs hz
 cases hv:Np.aD z.data.toList with
 | false=>
  have HX:Hid (r=false):=jq (by rw[<-HR.out];exact Np.aF (λk=>absurd (hv.symm.trans k.2.1) (by decide)));have HV:=jq hv;clear hv;go_enter func219,ntmps219;go_wp2_with fail;refine (aiJ z HZ.out HV.out _).mono ?_;rintro e w1 ⟨rfl,hb⟩;have HB:=jq hb;clear hb;go_wp2_with fail;go_ret;exact⟨ag HX.out.symm,HB.out⟩
 | true=>
  have hw:=LH hv;obtain⟨ps,fT⟩:=acJ (Np.fm z.data.toList);rw[fT] at hw;have nw:=jq fT;have HW:=jq hw;have HV:=jq hv;clear hw hv fT;go_enter func219,ntmps219;go_wp2_with fail;refine (Rd z HV.out _).mono ?_;rw[nw.out];rintro e w1 ⟨⟨v,rfl,rx⟩,hb⟩;have HB:=jq hb;clear hb;obtain⟨A,c,rfl,hc,hl,he⟩:=rx
  cases ps with
  | nil=>
   have nB:Hid (Np.eD z.data.toList=false):=jq (by rw[HW.out];rfl);clear he hc hl;go_wp2_with fail
   cases dD:Np.aD s.data.toList with
   | false=>
    have HF:Hid (r=false):=jq (by rw[<-HR.out];exact Np.aF (λk=>absurd (dD.symm.trans k.1) (by decide)));refine (SL s z HS.out _ dD).mono ?_;rintro e w2 ⟨rfl,ac⟩;have ai:=jq (HB.out.trans (ac.mono HB.out.size));clear ac dD;go_wp2_with fail;go_ret;exact⟨ag HF.out.symm,ai.out⟩
   | true=>
    obtain⟨u,hu⟩:=acJ (Np.bD s.data.toList z.data.toList);have HF:Hid (r=u):=jq (by
     rw[<-HR.out,<-hu,Bool.eq_iff_iff,Np.fq];exact⟨λk=>k.2.2.2,λk=>⟨dD,HV.out,nB.out,k⟩⟩)
    refine (Db s z HS.out HZ.out _ dD HV.out).mono ?_;rw[hu];rintro e w2 ⟨rfl,ac⟩;have ai:=jq (HB.out.trans (ac.mono HB.out.size));clear ac dD hu
    cases u with
    | true=>
     go_wp2_with fail;go_ret;exact⟨ag HF.out.symm,ai.out⟩
    | false=>
     go_wp2_with fail;go_ret;exact⟨ag HF.out.symm,ai.out⟩
  | cons x xs=>
   obtain⟨b,o,e,rfl,bB,_,hce,sx,lh,_,rfl⟩:=he 0 x rfl;have h0:w1.cell? ⟨b,o,none⟩=some (.string sx):=by have:=hce 0 _ rfl;simpa using this
   obtain⟨q,hq⟩:=acJ (sx.toList == [42]);have HX:Hid (Np.eD z.data.toList=q):=jq (by rw[HW.out,<-hq,dQ,lh,List.head?_cons,Bool.eq_iff_iff];simp);obtain⟨n,hn⟩:=acJ ((x::xs).length);have lM:0<n:=by rw[<-hn];simp
   have P7:(0:Int)<(n:Int):=by omega
   rw[hn];clear he hce hc hl hn lh
   cases q with
   | true=>
    have HF:Hid (r=false):=jq (by rw[<-HR.out];exact Np.aF (λk=>absurd (HX.out.symm.trans k.2.2.1) (by decide)));go_wp2_with fail;go_ret;exact⟨ag HF.out.symm,HB.out⟩
   | false=>
    have nB:Hid (Np.eD z.data.toList=false):=HX;go_wp2_with fail
    cases dD:Np.aD s.data.toList with
    | false=>
     have HF:Hid (r=false):=jq (by rw[<-HR.out];exact Np.aF (λk=>absurd (dD.symm.trans k.1) (by decide)));refine (SL s z HS.out _ dD).mono ?_;rintro e w2 ⟨rfl,ac⟩;have ai:=jq (HB.out.trans (ac.mono HB.out.size));clear ac dD;go_wp2_with fail;go_ret;exact⟨ag HF.out.symm,ai.out⟩
    | true=>
     obtain⟨u,hu⟩:=acJ (Np.bD s.data.toList z.data.toList);have HF:Hid (r=u):=jq (by
      rw[<-HR.out,<-hu,Bool.eq_iff_iff,Np.fq];exact⟨λk=>k.2.2.2,λk=>⟨dD,HV.out,nB.out,k⟩⟩)
     refine (Db s z HS.out HZ.out _ dD HV.out).mono ?_;rw[hu];rintro e w2 ⟨rfl,ac⟩;have ai:=jq (HB.out.trans (ac.mono HB.out.size));clear ac dD hu
     cases u with
     | true=>
      go_wp2_with fail;go_ret;exact⟨ag HF.out.symm,ai.out⟩
     | false=>
      go_wp2_with fail;go_ret;exact⟨ag HF.out.symm,ai.out⟩
end
end Go.Proofs.YtfnopgdcaanaiaaGreatDoor
