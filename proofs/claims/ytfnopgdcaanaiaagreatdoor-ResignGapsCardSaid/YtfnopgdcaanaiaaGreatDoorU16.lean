/- Parts of the proof. No condition. -/
import Derived.Test.YtfnopgdcaanaiaaGreatDoorU11
import Derived.Test.YtfnopgdcaanaiaaGreatDoorU12
import Derived.Test.YtfnopgdcaanaiaaGreatDoorU14
import Derived.Test.YtfnopgdcaanaiaaGreatDoorU15
set_option linter.all false
set_option maxRecDepth 100000
set_option maxHeartbeats 8000000
namespace Go.Proofs.YtfnopgdcaanaiaaGreatDoor
open Go.Proofs.Tryz
section
open Go.RowKit
theorem ZK{z:Np.Zone}(bn:z.sets.length<=20000):Np.VZone z↔(((((Np.ei z=true/\Np.ApexH z.apex z.sets)/\Np.wu z.sets)/\Np.n9 z.sets (Np.dE z))/\Np.xJ z.sets (Np.dE z))/\∀ x∈z.sets,Np.fp z.apex x.sigs):=by
 constructor
 ·intro h;refine⟨⟨⟨⟨⟨h.right,h.start,h.server,h.fits⟩,λk x hx ht=>⟨λp h0 hp he=>?_,λn hn he=>?_⟩⟩,h.cuts⟩,h.sigs⟩,h.form⟩
  ·obtain⟨hk,rfl⟩:=cQ.1 hx;obtain⟨bY,rfl⟩:=cQ.1 hp;obtain⟨m,rfl⟩:∃ m,k=m+1:=⟨k - 1,by omega⟩;exact h.aliasBefore m hk ht he
  ·obtain⟨hk,rfl⟩:=cQ.1 hx;obtain⟨bY,rfl⟩:=cQ.1 hn;exact h.aliasBehind k bY ht he
 ·rintro⟨⟨⟨⟨⟨h1,h2⟩,h3⟩,h4⟩,h5⟩,h6⟩;refine⟨h1,bn,h2.start,h2.server,h2.fits,λi hi ht he=>?_,λi hi ht he=>?_,h4,h5,h6⟩
  ·exact (h3 (i+1) _ (aQ hi) ht).1 _ (by omega) (aQ (by omega)) he
  ·exact (h3 i _ (aQ (by omega)) ht).2 _ (aQ hi) he
theorem qD{P:Prop}(h:Np.yes P=false):¬ P:=λhp=>by rw[Np.bS hp] at h;cases h
theorem OP(a:ByteArray)(ha:a.size<=140737488355328)(v:Value)(l:List Np.Signed)(bn:l.length<=20000)(w:World)(hR:f9 w w.heap.size)(hd:SlR cA 5 w w.heap.size v l) :
 Calls prog 120 #[.agg #[.string a,v]] w (aeJ w.heap.size w (.bool (Np.yes (Np.VZone ⟨a.data.toList,l⟩)))):=by
 obtain⟨r,hr⟩:=abK (Np.yes (Np.VZone ⟨a.data.toList,l⟩));rw[hr];have HR:Hid (Np.yes (((((Np.ei ⟨a.data.toList,l⟩=true/\Np.ApexH a.data.toList l)/\Np.wu l)/\Np.n9 l (Np.dE ⟨a.data.toList,l⟩))/\Np.xJ l (Np.dE ⟨a.data.toList,l⟩))/\∀ x∈l,Np.fp a.data.toList x.sigs)=r):=jq (by
  rw[<-hr];exact (Np.r9 (ZK (z:=⟨a.data.toList,l⟩) bn)).symm)
 have HD:=jq hd;have ii:=jq hR;obtain⟨A,c,rfl,aW,bh⟩:=aj hd;clear hr hd hR;have HW:Hid (∀ o o',Below w.heap.size w ((w.alloc o).alloc o')):=jq (λo o'=>((vQ _ w).alloc (bQ _) _).alloc (by simp) _);go_enter func120,ntmps120;go_wp2_with fail;obtain⟨w1,ak⟩:=abK ((w.alloc (.cells #[.string a,.slice A l.length c] 44)).alloc (.cells #[.string a,.slice A l.length c] 263));have c0:w1.cell? ⟨w.heap.size+1,0,none⟩=some (.string a):=by rw[<-ak];simp[go_sem]
 have c1:w1.cell? ⟨w.heap.size+1,1,none⟩=some (.slice A l.length c):=by rw[<-ak];simp[go_sem]
 have bg:w1.heap.size=w.heap.size+2:=by rw[<-ak];simp
 have ar:Hid (Below w.heap.size w w1):=jq (by rw[<-ak];exact HW.out _ _);rw[ak];clear ak;refine (Z8 a ha _ l bn _ ((ii.out.keep ar.out).more (by omega)) (HD.out.later bI eF ar.out)).mono ?_;rintro e w2 ⟨rfl,ab⟩;have aO:=ab.size;have ai:=abJ ar ab;have d0:w2.cell? ⟨w.heap.size+1,0,none⟩=some (.string a):=abZ ab c0;have d1:w2.cell? ⟨w.heap.size+1,1,none⟩=some (.slice A l.length c):=abZ ab c1;clear ab c0 c1
 cases dN:Np.ei ⟨a.data.toList,l⟩ with
 | false=>
  have HX:Hid (r=false):=jq (by rw[<-HR.out];exact Np.aK λh=>by rw[dN] at h;cases h.1.1.1.1.1);clear dN;go_wp2_with fail;go_ret;exact⟨ae HX.out.symm,ai.out⟩
 | true=>
  have ij:=jq dN;have ho:=Np.VZone.inOrder dN;have HS:=jq (YZ ho);have oK:=dN;unfold Np.ei at oK;simp only[Bool.and_eq_true] at oK;have NA:=jq oK.1.1;have HV:Hid (∀ x∈l,Np.aD x.set.name=true):=jq (λx hx=>Dn (Np.BP oK.2 x hx));clear dN oK ho;go_wp2_with fail;refine (Q6 a ha NA.out _ l bn HV.out HS.out _ (HD.out.later bI eF ai.out)).mono ?_;rintro e w3 ⟨rfl,ah⟩;have fW:=ah.size;have aB:=abJ ai ah;replace d0:=abZ ah d0;replace d1:=abZ ah d1;clear ah
  cases oI:Np.yes (Np.ApexH a.data.toList l) with
  | false=>
   have HX:Hid (r=false):=jq (by rw[<-HR.out];exact Np.aK λh=>qD oI h.1.1.1.1.2);clear oI;go_wp2_with fail;go_ret;exact⟨ae HX.out.symm,aB.out⟩
  | true=>
   have sk:=jq (Np.fo.1 oI);clear oI;go_wp2_with fail;refine (Wk a _ l bn HV.out HS.out _ (HD.out.later bI eF aB.out)).mono ?_;rintro e w4 ⟨⟨bv,rfl,gd⟩,aq⟩;have gX:=aq.size;have bJ:=abJ aB aq;obtain⟨A2,c2,rfl,db,cY⟩:=aj gd;have bq:(Np.dE ⟨a.data.toList,l⟩).length=l.length:=Np.qU _;rw[bq] at db cY gd |-;clear bq;have Pf:=jq gd;clear aq gd d0 d1;go_wp2_with fail;obtain⟨w5,aJ⟩:=abK (w4.alloc (.cells #[.string a,.slice A l.length c,.slice A2 l.length c2] 265));have g0:w5.cell? ⟨w4.heap.size,0,none⟩=some (.string a):=by rw[<-aJ];simp[go_sem]
   have g1:w5.cell? ⟨w4.heap.size,1,none⟩=some (.slice A l.length c):=by rw[<-aJ];simp[go_sem]
   have g2:w5.cell? ⟨w4.heap.size,2,none⟩=some (.slice A2 l.length c2):=by rw[<-aJ];simp[go_sem]
   have kJ:w5.heap.size=w4.heap.size+1:=by rw[<-aJ];simp
   have ui:Hid (Below w4.heap.size w4 w5):=jq (by rw[<-aJ];exact (vQ _ _).alloc (bQ _) _);have cO:Hid (Below w.heap.size w w5):=abJ bJ ui.out;have qJ:Hid (∀ wx,Below w.heap.size w wx->w.heap.size<=wx.heap.size->SlR cA 5 wx wx.heap.size (.slice A l.length c) l):=jq (λwx hb _=>HD.out.later bI eF hb);have II:Hid (∀ wx,Below w4.heap.size w4 wx->SlR RTx 1 wx wx.heap.size (.slice A2 l.length c2) (Np.dE ⟨a.data.toList,l⟩)):=jq (λwx hb=>Pf.out.later mv NF hb);have HL:Hid ((Np.dE ⟨a.data.toList,l⟩).length=l.length):=jq (Np.qU _);rw[aJ];clear aJ;refine (Q0 a _ A2 l.length c2 l bn _ (qJ.out _ cO.out cO.out.size)).mono ?_;rintro e w6 ⟨rfl,aV⟩;have ke:=aV.size;have cF:=abJ cO aV;have If:=abJ ui aV;replace g0:=abZ aV g0;replace g1:=abZ aV g1;replace g2:=abZ aV g2;clear aV
   cases qk:Np.yes (Np.wu l) with
   | false=>
    have HX:Hid (r=false):=jq (by rw[<-HR.out];exact Np.aK λh=>qD qk h.1.1.1.2);clear qk;go_wp2_with fail;go_ret;exact⟨ae HX.out.symm,cF.out⟩
   | true=>
    have Ex:=jq (Np.fo.1 qk);clear qk;go_wp2_with fail;refine (RZ a _ _ l _ HL.out _ (qJ.out _ cF.out cF.out.size) (II.out _ If.out)).mono ?_;rintro e w7 ⟨rfl,du⟩;have rN:=du.size;have iF:=abJ cF du;have O1:=abJ If du;replace g0:=abZ du g0;replace g1:=abZ du g1;replace g2:=abZ du g2;clear du
    cases zl:Np.yes (Np.n9 l (Np.dE ⟨a.data.toList,l⟩)) with
    | false=>
     have HX:Hid (r=false):=jq (by rw[<-HR.out];exact Np.aK λh=>qD zl h.1.1.2);clear zl;go_wp2_with fail;go_ret;exact⟨ae HX.out.symm,iF.out⟩
    | true=>
     have Qo:=jq (Np.fo.1 zl);clear zl;go_wp2_with fail;refine (YS a _ _ l _ HL.out _ (qJ.out _ iF.out iF.out.size) (II.out _ O1.out)).mono ?_;rintro e w8 ⟨rfl,fP⟩;have vI:=fP.size;have jF:=abJ iF fP;replace g0:=abZ fP g0;replace g1:=abZ fP g1;replace g2:=abZ fP g2;clear fP
     cases tN:Np.yes (Np.xJ l (Np.dE ⟨a.data.toList,l⟩)) with
     | false=>
      have HX:Hid (r=false):=jq (by rw[<-HR.out];exact Np.aK λh=>qD tN h.1.2);clear tN;go_wp2_with fail;go_ret;exact⟨ae HX.out.symm,jF.out⟩
     | true=>
      have Bi:=jq (Np.fo.1 tN);clear tN;go_wp2_with fail;refine (Ss a _ A2 l.length c2 l _ (qJ.out _ jF.out jF.out.size)).mono ?_;rintro e w9 ⟨rfl,dj⟩;have GJ:=dj.size;have gH:=abJ jF dj;replace g0:=abZ dj g0;replace g1:=abZ dj g1;replace g2:=abZ dj g2;clear dj
      cases bl:Np.yes (∀ x∈l,Np.fp a.data.toList x.sigs) with
      | false=>
       have HX:Hid (r=false):=jq (by rw[<-HR.out];exact Np.aK λh=>qD bl h.2);clear bl;go_wp2_with fail;go_ret;exact⟨ae HX.out.symm,gH.out⟩
      | true=>
       have Qp:=jq (Np.fo.1 bl);clear bl;go_wp2_with fail;go_ret;exact⟨ae (by rw[<-HR.out];exact (Np.bS ⟨⟨⟨⟨⟨ij.out,sk.out⟩,Ex.out⟩,Qo.out⟩,Bi.out⟩,Qp.out⟩).symm),gH.out⟩
end
section
open Go.RowKit Go.MapKept
def sX(W:World)(B:Nat)(e:List Value)(p:Np.Placed):Prop:=∃ (s:ByteArray) (v:Value),s.data.toList=p.zone.apex/\s.size<=140737488355328/\SlR cA 5 W B v p.zone.sets/\e = [.int .i64 p.host,.string s,v]
theorem C7:cL sX:=λ_ _ _ _ _ ⟨s,v,h1,h2,h3,h5⟩ hb=>⟨s,v,h1,h2,h3.keep bI hb,h5⟩
theorem G5:dD sX:=λ_ _ _ _ _ ⟨s,v,h1,h2,h3,h5⟩ hb=>⟨s,v,h1,h2,h3.more eF hb,h5⟩
theorem Xe{w:World}{B n c:Nat}{A:Option Addr}{xs:List Np.Placed}(h:SlR sX 3 w B (.slice A n c) xs){k:Nat}{x:Np.Placed}(hx:xs[k]?=some x):∃ (b o:Nat) (s:ByteArray) (v:Value),A=some ⟨b,o,none⟩/\b<B/\s.data.toList=x.zone.apex/\s.size<=140737488355328/\SlR cA 5 w B v x.zone.sets/\w.cell? ⟨b,o+k * 3,none⟩=some (.int .i64 x.host)/\w.cell? ⟨b,o+k * 3+1,none⟩=some (.string s)/\w.cell? ⟨b,o+k * 3+2,none⟩=some v:=by
 obtain⟨A',c',hA',_,_,aC⟩:=h
 cases hA'
 obtain⟨b,o,e,hA,bq,hlen,hce,s,v,h1,h2,h3,he⟩:=aC k _ hx;subst he;exact⟨b,o,s,v,hA,bq,h1,h2,h3,hce 0 _ rfl,hce 1 _ rfl,hce 2 _ rfl⟩
def jf(r n:Nat)(w:World):Prop:=∃ es c kvs,w.heap[r]?=some (.map es c)/\es.toList.map (λe=>(e.key,e.val))=(kvs:List (List UInt8×Value)).map (λp=>(ay p.1,p.2))/\es.size<=n
theorem jf.lt{r n:Nat}{w:World}(h:jf r n w):r<w.heap.size:=by
 obtain⟨es,c,kvs,h,_⟩:=h;exact (eQ.1 h).1
theorem jf.keep{r k:Nat}{w w':World}{n:Nat}(h:jf r k w)(hb:Below n w w')(hn:r<n):jf r k w':=by
 obtain⟨es,c,kvs,h,h2⟩:=h;exact⟨es,c,kvs,(hb.block r hn).trans h,h2⟩
theorem jf.turned{r k r':Nat}{w w':World}(h:jf r k w)(ht:Turned r' w w')(hne:r≠r'):jf r k w':=by
 obtain⟨es,c,kvs,h,h2⟩:=h;exact⟨es,c,kvs,(ht.block r hne).trans h,h2⟩
theorem jf.made(w:World):jf w.heap.size 0 (w.alloc (.map #[] 0)):=⟨#[],0,[],heap_alloc_new _ _,rfl,bQ _⟩
theorem Sl(x:List UInt8):∀ (es:List MapEntry) (kvs:List (List UInt8×Value)) (i:Nat),es.map (λe=>(e.key,e.val))=kvs.map (λp=>(ay p.1,p.2))->
 (∃ j e,es[j]?=some e/\e.key=ay x/\Instr.findNow .string (ay x) es i=some (some (i+j,e.val)))\/Instr.findNow .string (ay x) es i=some none:=by
 intro es
 induction es with
 | nil=>
  intro kvs i h;exact .inr rfl
 | cons e es ih=>
  intro kvs i h
  cases kvs with
  | nil=>simp at h
  | cons p kvs=>
   obtain⟨y,u⟩:=p;simp only[List.map_cons,List.cons.injEq,Prod.mk.injEq] at h;obtain⟨⟨h1,h2⟩,h3⟩:=h;have hs:Instr.sameNow .string (ay x) e.key=some (x == y):=by rw[h1];simp only[Instr.sameNow];rw[Of]
   by_cases bF:x=y
   ·subst bF;have hb:(x == x)=true:=by simp
    rw[hb] at hs;exact .inl ⟨0,e,rfl,h1,by simp only[Instr.findNow,hs];rfl⟩
   ·have hb:(x == y)=false:=by simpa using bF
    rw[hb] at hs;rcases ih kvs (i+1) h3 with ⟨j,e',j1,j2,j3⟩ | h4
    ·exact .inl ⟨j+1,e',by simpa using j1,j2,by simp only[Instr.findNow,hs];rw[j3,show i+1+j=i+(j+1) by omega]⟩
    ·exact .inr (by simp only[Instr.findNow,hs];exact h4)
theorem VW(a:ByteArray)(P:Program)(w:World):(Instr.keyThatStays (.string a) (.string a)).run P w = .ok (.string a) w:=by
 have h1:(a == a)=true:=by
  show (a.data == a.data)=true;simp
 have:Instr.sameBits 10000 (.string a) (.string a)=true:=by simp[Instr.sameBits,h1]
 simp[Instr.keyThatStays,this]
section
variable {P:Program} {ops:Array Oper} {rest:List Oper} {o:Oper} {a:Act} {Q:Exit->Act->World->Prop}
theorem Z3(w:World)(hg:o.guard=none)(m x v:Operand)(t:TypeId)(gj:o.op=Op.mapUpdate t m x v)(kt et:TypeId)(ht:P.underlying t=some (.map kt et))(hk:P.underlying kt=some .string)
 (r n:Nat) (hm:a.eval m = .map (some r)) (hr:jf r n w) (key:List UInt8) (hx:a.eval x=ay key) (val:Value) (hv:a.eval v=val)
 (hK:∀ w',jf r (n+1) w'->Turned r w w'->wpList P ops Q rest (a.put o.dst undef) w'):wpList P ops Q (o::rest) a w:=by
 obtain⟨es,c,kvs,hr,he,hn⟩:=hr;refine wpList_plain hg λK' hK'=>?_;have hc:(Instr.checkKey false 10000 kt (ay key)).run P w = .ok () w:=MapKept.run_checkKey (k:=ay key) hk (by simp[MapKept.IsKey]) false 9999;have hl:r<w.heap.size:=(eQ.1 hr).1;rcases Sl key es.toList kvs 0 he with ⟨j,e,j1,j2,hf⟩ | hf
 ·have rm:(Instr.keyThatStays (((es[j]?).map (·.key)).getD (ay key)) (ay key)).run P w = .ok (ay key) w:=by
   rw[Array.getElem?_toList] at j1;rw[j1];simp only[Option.map_some,Option.getD_some];rw[j2];exact VW _ P w
  rw[Nat.zero_add] at hf;have cH:(Instr.mapUpdate t (.map (some r)) (ay key) val).run P w = .ok () { w with heap:=w.heap.setIfInBounds r (.map (es.modify j λe=>{ e with key:=ay key,val:=val }) c) }:=by
   simp[Instr.mapUpdate,run_underlying ht,MapKept.run_getObj_map hr,hc,MapKept.run_findKey hk hf,rm,MapKept.run_setObj_map _ hr,Result.andThen]
  unfold Oper.wp;simp[execOp,gj,hm,hx,hv,cH,Result.andThen];refine hK' _ _ (hK _ ⟨es.modify j λe=>{ e with key:=ay key,val:=val },c,kvs.modify j λ_=>(key,val),by simp[hl],?_,by simp;omega⟩ ⟨rfl,rfl,rfl,by simp,λi hi=>by simp[Ne.symm hi]⟩);apply List.ext_getElem?;intro i;have hi:=Qd (λl=>l[i]?) he;simp only[List.getElem?_map] at hi |-;rw[Array.toList_modify,List.getElem?_modify,List.getElem?_modify];by_cases dz:j=i
  ·subst dz;simp only[if_true]
   cases h1:es.toList[j]? <;> cases h2:kvs[j]? <;> simp[h1,h2] at hi |-
  ·simp only[Qc dz];simpa using hi
 ·have cH:(Instr.mapUpdate t (.map (some r)) (ay key) val).run P w = .ok () { w with heap:=w.heap.setIfInBounds r (.map (es.push { key:=ay key,val:=val,born:=c }) (c+1)) }:=by
   simp[Instr.mapUpdate,run_underlying ht,MapKept.run_getObj_map hr,hc,MapKept.run_findKey hk hf,MapKept.run_setObj_map _ hr,Result.andThen]
  unfold Oper.wp;simp[execOp,gj,hm,hx,hv,cH,Result.andThen];exact hK' _ _ (hK _ ⟨es.push { key:=ay key,val:=val,born:=c },c+1,kvs ++ [(key,val)],by simp[hl],by simp[he],by simp;omega⟩ ⟨rfl,rfl,rfl,by simp,λi hi=>by simp[Ne.symm hi]⟩)
end
theorem MF{α:Type}[BEq α][LawfulBEq α][DecidableEq α](l:List α)(x:α):((l.map λy=>(y,Value.bool true)).lookup x).getD (.bool false) = .bool (decide (x∈l)):=by
 induction l with
 | nil=>simp
 | cons y l ih=>
  rw[List.map_cons,List.lookup_cons];by_cases h:x=y
  ·subst h;simp
  ·have hb:(x == y)=false:=by simpa using h
   rw[hb];simp only[ih,List.mem_cons,h,false_or]
theorem ME{α:Type}[BEq α][LawfulBEq α](l:List α)(x:α)(h:x∉l):(l.map λy=>(y,Value.bool true)).lookup x=none:=by
 induction l with
 | nil=>rfl
 | cons y l ih=>
  have hb:(x == y)=false:=by
   rw[beq_eq_false_iff_ne];intro e;exact h (by simp[e])
  rw[List.map_cons,List.lookup_cons,hb];exact ih (λhm=>h (mQ _ hm))
def Np.gZ(p:Np.Placed):Int×List UInt8:=(p.host,p.zone.apex)
def Np.Br(n:Nat)(p:Np.Placed):Prop:=(0<=p.host/\p.host<n)/\Np.VZone p.zone
def Np.nE(n:Nat)(l:List Np.Placed):Prop:=(∀ p∈l,Np.Br n p)/\l.Pairwise λp q=>¬ (p.host=q.host/\p.zone.apex=q.zone.apex)
theorem ZF{n k:Nat}{l:List Np.Placed}{x:Np.Placed}(hx:l[k]?=some x)(h:Np.nE n l):Np.Br n x/\Np.gZ x∉(l.take k).map Np.gZ:=by
 refine⟨h.1 x (gQ hx),λhm=>?_⟩;obtain⟨y,hy,he⟩:=List.mem_map.1 hm;have h1:(l.take k ++ [x]).Pairwise λp q=>¬ (p.host=q.host/\p.zone.apex=q.zone.apex):=by
  obtain⟨hl,he⟩:=cQ.1 hx
  have:l.take k ++ [x]=l.take (k+1):=by rw[fQ hl,he]
  rw[this];exact h.2.sublist (List.take_sublist _ _)
 have h2:=(List.pairwise_append.1 h1).2.2 y hy x (by simp);unfold Np.gZ at he;simp only[Prod.mk.injEq] at he;exact h2 he
theorem ZG{n k:Nat}{l:List Np.Placed}{x:Np.Placed}(hx:l[k]?=some x)(h:Np.nE n (l.take k))(h1:Np.Br n x)(h2:Np.gZ x∉(l.take k).map Np.gZ):Np.nE n (l.take (k+1)):=by
 obtain⟨hl,he⟩:=cQ.1 hx;have ht:l.take (k+1)=l.take k ++ [x]:=by rw[fQ hl,he]
 rw[ht];refine⟨λp hp=>?_,List.pairwise_append.2 ⟨h.2,by simp,λy hy z hz Mf=>?_⟩⟩
 ·rcases List.mem_append.1 hp with hp | hp
  ·exact h.1 p hp
  ·rw[List.mem_singleton] at hp;subst hp;exact h1
 ·rw[List.mem_singleton] at hz;subst hz;exact h2 (List.mem_map.2 ⟨y,hy,by unfold Np.gZ;simp[Mf.1,Mf.2]⟩)
theorem ZA(hv:Value)(n:Nat)(hn:∃ A c,hv = .slice A n c)(zv:Value)(l:List Np.Placed)(sv:Value)(ty life:Int)(dv cX:Value)(s:ByteArray)(aN:sv = .string s)(hl:l.length<=500)(hz:∀ p∈l,p.zone.sets.length<=20000)(w:World)(hR:f9 w w.heap.size)(hd:SlR sX 3 w w.heap.size zv l) :
 Calls prog 181 #[.agg #[hv,zv,sv,.int .i64 ty,.int .i64 life,dv,cX]] w λe w'=>e = .returned (.bool (Np.yes (Np.nE n l)))/\Below w.heap.size w w':=by
 obtain⟨r,hr⟩:=abK (Np.yes (Np.nE n l));rw[hr];have HR:=jq hr;have HD:=jq hd;have ii:=jq hR;have HZ:=jq hz;obtain⟨Ah,ch,rfl⟩:=hn;obtain⟨A,c,rfl,aW,bh⟩:=aj hd;subst aN;clear hr hd hR hz;have anX:∀ (w:World),(Instr.makeMap 299 none).run prog w = .ok (.map (some w.heap.size)) (w.alloc (.map #[] 0)):=λw=>by
  simp[Instr.makeMap,Result.andThen]
 have anY:∀ (w:World),(Instr.makeMap 111 none).run prog w = .ok (.map (some w.heap.size)) (w.alloc (.map #[] 0)):=λw=>by
  simp[Instr.makeMap,Result.andThen]
 have ee:decide (4000<(l.length:Int))=false:=acJ;go_enter func181,ntmps181;go_wp2_with fail;obtain⟨w1,ak⟩:=abK (((w.alloc (.cells #[.slice Ah n ch,.slice A l.length c,.string s,.int .i64 ty,.int .i64 life,dv,cX] 68)).alloc (.map #[] 0)).alloc (.map #[] 0));obtain⟨X,hX⟩:=abK w.heap.size;obtain⟨X1,nL⟩:=abK (X+1);obtain⟨X2,B3⟩:=abK (X1+1);have sI:Hid (iJ X1 [] w1):=jq (by
  rw[<-ak,<-nL,<-hX];have h0:=iJ.made (w.alloc (.cells #[.slice Ah n ch,.slice A l.length c,.string s,.int .i64 ty,.int .i64 life,dv,cX] 68));rw[show w.heap.size+1=(w.alloc (.cells #[.slice Ah n ch,.slice A l.length c,.string s,.int .i64 ty,.int .i64 life,dv,cX] 68)).heap.size by simp];exact h0.keep ((vQ _ _).alloc (bQ _) _) (by simp))
 have P0:Hid (jf X2 0 w1):=jq (by
  rw[<-ak,<-B3,<-nL,<-hX];have h0:=jf.made ((w.alloc (.cells #[.slice Ah n ch,.slice A l.length c,.string s,.int .i64 ty,.int .i64 life,dv,cX] 68)).alloc (.map #[] 0));simpa using h0)
 have ar:Hid (Below X w w1):=jq (by rw[<-ak,<-hX];exact (((vQ _ _).alloc (bQ _) _).alloc (by simp) _).alloc (by simp;omega) _);have AO:Hid (w1.cell? ⟨X,0,none⟩=some (.slice Ah n ch)):=jq (by rw[<-ak,<-hX];simp[go_sem]);have bg:X2<w1.heap.size:=by rw[<-ak,<-B3,<-nL,<-hX];simp
 rw[ak,hX,nL,B3];have hlX:X<X1:=by omega
 have alK:X1<X2:=by omega
 rw[hX] at HD ii;have gK:=jq hX;clear ak nL B3;go_loopw [17] (λi wr=>∃ k:Nat,k<=l.length/\i = .int .i64 k/\Hid (Below X w wr)/\X2<wr.heap.size/\Hid (wr.cell? ⟨X,0,none⟩=some (.slice Ah n ch))/\Hid (iJ X1 (((l.take k).map Np.gZ).map λy=>(y,Value.bool true)) wr)/\Hid (jf X2 k wr)/\Hid (Np.nE n (l.take k))) (λi _=>l.length - (intOf i).toNat)
 case atStart=>exact⟨0,jQ _,rfl,ar,bg,AO,sI,P0,jq ⟨λp hp=>by simp at hp,by simp⟩⟩
 case round=>
  obtain⟨k,hk,rfl,HB,bO,HC,HM,HN,HV⟩:=hrel;have FN:=HC.out;by_cases aa:k<l.length
  ·obtain⟨x,ac⟩:∃ x,l[k]?=some x:=⟨_,aQ aa⟩;obtain⟨b,o,sn,vz,rfl,bp,aw,cE,fh,f0,f1,f2⟩:=Xe (HD.out.keep C7 HB.out) ac;have kZ:=jq (ZF (n:=n) (k:=k) ac);have cP:=jq (λh1 h2=>ZG ac HV.out h1 h2);have HF:Hid (¬ Np.Br n x->r=false):=jq (λh=>by rw[<-HR.out];exact Np.aK λq=>h (kZ.out q).1);have sB:Hid (Np.gZ x∈(l.take k).map Np.gZ->r=false):=jq (λh=>by rw[<-HR.out];exact Np.aK λq=>(kZ.out q).2 h);have HT:Hid ((l.take (k+1)).map Np.gZ=(l.take k).map Np.gZ ++ [Np.gZ x]):=jq (by
    obtain⟨hl,he⟩:=cQ.1 ac;rw[fQ hl,he,List.map_append];rfl)
   have xF:Hid (x.zone.sets.length<=20000):=jq (HZ.out x (gQ ac));have nA:Hid (Np.gZ x=(x.host,sn.data.toList)):=jq (by unfold Np.gZ;rw[aw]);obtain⟨Az,cz,rfl,_,_⟩:=aj fh;obtain⟨nz,iU⟩:=abK x.zone.sets.length;have aS:=jq aw;rw[iU] at f2;have lh:Hid (SlR cA 5 wr wr.heap.size (.slice Az nz cz) x.zone.sets):=jq (by rw[<-iU];exact fh.more eF (by have:=HB.out.size;omega));obtain⟨w2,ag⟩:=abK (wr.alloc (.cells #[.int .i64 x.host,.string sn,.slice Az nz cz] 72));obtain⟨w3,cI⟩:=abK (w2.alloc (.cells #[.int .i64 x.host,.string sn] 301));have aO:w2.heap.size=wr.heap.size+1:=by rw[<-ag];simp
   have fW:w3.heap.size=w2.heap.size+1:=by rw[<-cI];simp
   have ab:Below wr.heap.size wr w2:=by rw[<-ag];exact (vQ _ _).alloc (bQ _) _
   have ah:Below wr.heap.size wr w3:=by rw[<-cI];exact ab.alloc (by omega) _
   have p0:w2.cell? ⟨wr.heap.size,0,none⟩=some (.int .i64 x.host):=by rw[<-ag];simp[go_sem]
   have p1:w2.cell? ⟨wr.heap.size,1,none⟩=some (.string sn):=by rw[<-ag];simp[go_sem]
   have q0:w3.cell? ⟨wr.heap.size,0,none⟩=some (.int .i64 x.host):=by rw[<-cI,<-p0];simp[go_sem,aO]
   have q1:w3.cell? ⟨wr.heap.size,1,none⟩=some (.string sn):=by rw[<-cI,<-p1];simp[go_sem,aO]
   have q2:w3.cell? ⟨wr.heap.size,2,none⟩=some (.slice Az nz cz):=by rw[<-cI,<-ag];simp[go_sem]
   have r0:w3.cell? ⟨wr.heap.size+1,0,none⟩=some (.int .i64 x.host):=by rw[<-cI,<-aO];simp[go_sem]
   have r1:w3.cell? ⟨wr.heap.size+1,1,none⟩=some (.string sn):=by rw[<-cI,<-aO];simp[go_sem]
   have K2:w3.cell? ⟨X,0,none⟩=some (.slice Ah n ch):=abZ ah FN;have aB:=abJ HB ah;have om:Hid (iJ X1 (((l.take k).map Np.gZ).map λy=>(y,Value.bool true)) w3):=jq (HM.out.keep ah (by omega));have Bc:Hid (jf X2 k w3):=jq (HN.out.keep ah bO);have xC:Hid (SlR cA 5 w3 w3.heap.size (.slice Az nz cz) x.zone.sets):=jq ((lh.out.keep bI ah).more eF ah.size);have qM:Hid (X2<w3.heap.size):=jq (by omega);have gC:(Instr.lookup 299 (.map (some X1)) (.agg #[.int .i64 x.host,.string sn]) false).run prog w3 = .ok (.bool (decide ((x.host,sn.data.toList)∈(l.take k).map Np.gZ))) w3:=by
    have:=Yz w3 299 4 underlying299 X1 _ om.out (x.host,sn.data.toList) (.bool false) (by kernel_rfl)
    rw[MF] at this;exact this
   rw[<-nA.out] at gC;clear ac aw fh ab ah iU HM HN lh;by_cases g1:x.host<0
   ·have d1:decide (x.host<0)=true:=uQ g1;have HX:Hid (r=false):=jq (HF.out λh=>by have:=h.1;omega);clear g1;go_wp2_with fail;go_ret;exact⟨ae HX.out.symm,by rw[gK.out];exact aB.out⟩
   ·have d1:decide (x.host<0)=false:=tQ g1;by_cases g2:(n:Int)<=x.host
    ·have d2:decide ((n:Int)<=x.host)=true:=uQ g2;have HX:Hid (r=false):=jq (HF.out λh=>by have:=h.1;omega);clear g1 g2;go_wp2_with fail;go_ret;exact⟨ae HX.out.symm,by rw[gK.out];exact aB.out⟩
    ·have d2:decide ((n:Int)<=x.host)=false:=tQ g2;have HG:Hid (0<=x.host/\x.host<n):=jq (by omega);clear g1 g2;by_cases g3:Np.gZ x∈(l.take k).map Np.gZ
     ·rw[uQ g3] at gC;have HX:Hid (r=false):=jq (sB.out g3);clear g3;go_wp2_with fail;go_ret;exact⟨ae HX.out.symm,by rw[gK.out];exact aB.out⟩
     ·rw[tQ g3] at gC;have la:=jq g3;clear g3;go_wp2_with fail;refine (OP sn cE _ x.zone.sets xF.out w3 ((ii.out.keep aB.out).more (by have:=aB.out.size;omega)) xC.out).mono ?_;rintro e w4 ⟨rfl,aq⟩;have gX:w3.heap.size<=w4.heap.size:=aq.size;have s0:w4.cell? ⟨wr.heap.size,0,none⟩=some (.int .i64 x.host):=abZ aq q0;have s1:w4.cell? ⟨wr.heap.size,1,none⟩=some (.string sn):=abZ aq q1;have s2:w4.cell? ⟨wr.heap.size,2,none⟩=some (.slice Az nz cz):=abZ aq q2;have t0:w4.cell? ⟨wr.heap.size+1,0,none⟩=some (.int .i64 x.host):=abZ aq r0;have t1:w4.cell? ⟨wr.heap.size+1,1,none⟩=some (.string sn):=abZ aq r1;have bJ:=abJ aB aq;have Ed:Hid (iJ X1 (((l.take k).map Np.gZ).map λy=>(y,Value.bool true)) w4):=jq (om.out.keep aq (by omega));have Ei:Hid (jf X2 k w4):=jq (Bc.out.keep aq qM.out);have Ca:w4.cell? ⟨X,0,none⟩=some (.slice Ah n ch):=abZ aq K2;have kg:=jq Ca;clear aq p0 p1 q0 q1 q2 r0 r1 ag cI f0 f1 f2 gC K2 om Bc;obtain⟨rz,dN⟩:=abK (Np.yes (Np.VZone ⟨sn.data.toList,x.zone.sets⟩));rw[dN];have ij:=jq dN;clear dN
      cases rz with
      | false=>
       have HX:Hid (r=false):=jq (HF.out λh=>by
        have h1:=h.2;have h2:x.zone=⟨sn.data.toList,x.zone.sets⟩:=by rw[aS.out]
        rw[h2] at h1;have h3:=Np.bS h1;rw[ij.out] at h3
        cases h3)
       go_wp2_with fail;go_ret;exact⟨ae HX.out.symm,by rw[gK.out];exact bJ.out⟩
      | true=>
       have ox:Hid (Np.nE n (l.take (k+1))):=jq (cP.out ⟨HG.out,by
        have h2:x.zone=⟨sn.data.toList,x.zone.sets⟩:=by rw[aS.out]
        rw[h2];exact Np.fo.1 ij.out⟩ la.out)
       have P6:Hid ((((l.take k).map Np.gZ).map λy=>(y,Value.bool true)).lookup (x.host,sn.data.toList)=none):=jq (by rw[<-nA.out];exact ME _ _ la.out);go_wp2_with (at_mapUpdate;first
        | (refine Z4 _ rfl _ _ _ 299 rfl 4 underlying299 X1 _ rfl Ed.out (x.host,sn.data.toList) rfl (.bool true) rfl P6.out ?_;intro w5 lD kG;have s1':w5.cell? ⟨wr.heap.size,1,none⟩=some (.string sn):=(kG.cell (by dsimp only;omega)).trans s1;have H5:=jq (And.intro lD kG);have P1:=jq (Ei.out.turned kG (by omega));clear lD kG s0 s1 s2 t0 t1 Ca)
        | (refine Z3 _ rfl _ _ _ 111 rfl 9 4 underlying111 underlying9 X2 k rfl P1.out sn.data.toList rfl (.bool true) rfl ?_;intro w6 Lz L3;have H6:=jq (And.intro Lz L3);clear Lz L3))
       go_roundw
       case rel=>
        refine⟨k+1,by omega,by go_num,jq (((bJ.out.trans (H5.out.2.below (by omega))).trans (H6.out.2.below (by omega)))),by rw[H6.out.2.size,H5.out.2.size];have:=qM.out;omega,jq ((H6.out.2.cell (by dsimp only;omega)).trans ((H5.out.2.cell (by dsimp only;omega)).trans kg.out)),jq ?_,jq H6.out.1,ox⟩;have h1:=H5.out.1.keep' (w':=w6) (H6.out.2.block _ (by omega));rw[HT.out,List.map_append,nA.out];exact h1
       case measure=>simp[intOf] <;> omega
  ·have QB:Hid (Np.nE n l):=jq (by have:=HV.out;rwa [kQ (by omega)] at this);obtain⟨es,ce,kvs,hes,_,al⟩:=HN.out;have TK:decide ((es.size:Int)<=500)=true:=acK;have vp:(Builtin.len_ #[111] 3 #[.map (some X2)]).run prog wr = .ok (.int .i64 (es.size:Int)) wr:=by
    simp[Builtin.len_,run_underlying underlying111,MapKept.run_getObj_map hes,Result.andThen,goInt]
   obtain⟨m5,lD⟩:=abK es.size;rw[lD] at vp TK;clear hes lD;go_wp2_with fail;go_ret;exact⟨ae (by rw[<-HR.out];exact (Np.bS QB.out).symm),by rw[gK.out];exact HB.out⟩
def mG(W:World)(B:Nat)(e:List Value)(c:Np.Copy):Prop:=∃ (s:ByteArray) (v:Value),s.data.toList=c.zone.apex/\s.size<=140737488355328/\SlR cA 5 W B v c.zone.sets/\e = [.int .i64 c.host,.int .i64 c.frm,.int .i64 c.til,.string s,v]
theorem nj:cL mG:=λ_ _ _ _ _ ⟨s,v,h1,h2,h3,h5⟩ hb=>⟨s,v,h1,h2,h3.keep bI hb,h5⟩
theorem zX:dD mG:=λ_ _ _ _ _ ⟨s,v,h1,h2,h3,h5⟩ hb=>⟨s,v,h1,h2,h3.more eF hb,h5⟩
theorem ta{w:World}{B n c:Nat}{A:Option Addr}{xs:List Np.Copy}(h:SlR mG 5 w B (.slice A n c) xs){k:Nat}{x:Np.Copy}(hx:xs[k]?=some x):∃ (b o:Nat) (s:ByteArray) (v:Value),A=some ⟨b,o,none⟩/\b<B/\s.data.toList=x.zone.apex/\s.size<=140737488355328/\SlR cA 5 w B v x.zone.sets/\w.cell? ⟨b,o+k * 5,none⟩=some (.int .i64 x.host)/\w.cell? ⟨b,o+k * 5+1,none⟩=some (.int .i64 x.frm)/\w.cell? ⟨b,o+k * 5+2,none⟩=some (.int .i64 x.til)/\w.cell? ⟨b,o+k * 5+3,none⟩=some (.string s)/\w.cell? ⟨b,o+k * 5+4,none⟩=some v:=by
 obtain⟨A',c',hA',_,_,aC⟩:=h
 cases hA'
 obtain⟨b,o,e,hA,bq,hlen,hce,s,v,h1,h2,h3,he⟩:=aC k _ hx;subst he;exact⟨b,o,s,v,hA,bq,h1,h2,h3,hce 0 _ rfl,hce 1 _ rfl,hce 2 _ rfl,hce 3 _ rfl,hce 4 _ rfl⟩
theorem Q7(h f u:Int)(s:ByteArray)(v:Value)(w:World) :
 Calls prog 125 #[.agg #[.int .i64 h,.int .i64 f,.int .i64 u,.string s,v]] w (aeJ w.heap.size w (.string s)):=by
 have HB:Hid (∀ o,Below w.heap.size w (w.alloc o)):=jq (λo=>(vQ _ w).alloc (bQ _) _);go_enter func125,ntmps125;go_wp2_with fail;go_ret;exact⟨rfl,HB.out _⟩
theorem bV.turned{base r:Nat}{w w':World}{v:Value}{ps:List (List UInt8)}(h:bV base w v ps)(ht:Turned r w w')(hr:r<base):bV base w' v ps:=cM h (λg hg=>ht.block g (by have:=(h.lt g hg).1;omega))
theorem bV.weak{base base':Nat}{w:World}{v:Value}{ps:List (List UInt8)}(h:bV base w v ps)(hb:base'<=base):bV base' w v ps:=by
 refine⟨h.1,?_⟩;rcases h.2 with h2 | ⟨g,cap,cur,h1,h2,h3⟩
 ·exact .inl h2
 ·exact .inr ⟨g,cap,cur,h1,yQ hb h2,h3⟩
def Aw(ks:List (List UInt8)):List (List UInt8×Value):=ks.map λy=>(y,Value.bool true)
theorem Om(v:Value)(l:List Np.Copy)(bn:l.length<=20000)(w:World)(h:SlR mG 5 w w.heap.size v l) :
 Calls prog 124 #[v,.func (.func 125) #[] #[]] w λe w'=>∃ v',e = .returned v'/\bV w.heap.size w' v' (Np.cU (l.map (·.zone.apex)))/\Below w.heap.size w w':=by
 have HD:=jq h;obtain⟨A,c,rfl,aW,bh⟩:=aj h;clear h;have tF:∀ (w:World),(Instr.makeMap 111 none).run prog w = .ok (.map (some w.heap.size)) (w.alloc (.map #[] 0)):=λw=>by
  simp[Instr.makeMap,Result.andThen]
 have jL:Hid (∀ k,(Np.cU ((l.take k).map (·.zone.apex))).length<=20000):=jq (λk=>by
  have h1:=Np.wl ((l.take k).map (·.zone.apex));rw[List.length_map,List.length_take] at h1;omega)
 go_enter func124,ntmps124;go_wp2_with fail;have sI:=jq (di.made w);have ar:Hid (Below w.heap.size w (w.alloc (.map #[] 0))):=jq ((vQ _ w).alloc (bQ _) _);have bg:w.heap.size<(w.alloc (.map #[] 0)).heap.size:=by simp
 generalize w.alloc (.map #[] 0)=w1 at *;go_loopw [6,13] (λvo i wr=>∃ k:Nat,k<=l.length/\i = .int .i64 k/\Hid (Below w.heap.size w wr)/\w.heap.size<wr.heap.size/\Hid (di w.heap.size (Aw (Np.cU ((l.take k).map (·.zone.apex)))) wr)/\Hid (bV (w.heap.size+1) wr vo (Np.cU ((l.take k).map (·.zone.apex))))) (λ_ i _=>l.length - (intOf i).toNat)
 case atStart=>exact⟨0,jQ _,rfl,ar,bg,sI,jq ⟨by simp[Np.cU],.inl ⟨rfl,rfl⟩⟩⟩
 case round=>
  obtain⟨k,hk,rfl,HB,bO,HM,HO⟩:=hrel;by_cases aa:k<l.length
  ·obtain⟨x,ac⟩:∃ x,l[k]?=some x:=⟨_,aQ aa⟩;obtain⟨b,o,sn,vz,rfl,bp,aw,cE,fh,f0,f1,f2,f3,f4⟩:=ta (HD.out.keep nj HB.out) ac;obtain⟨Az,cz,rfl,_,_⟩:=aj fh;obtain⟨nz,iU⟩:=abK x.zone.sets.length;rw[iU] at f4;obtain⟨ks,rm⟩:=abK (Np.cU ((l.take k).map (·.zone.apex)));have HT:Hid (Np.cU ((l.take (k+1)).map (·.zone.apex))=Np.jS ks sn.data.toList):=jq (by
    obtain⟨hl,he⟩:=cQ.1 ac;rw[fQ hl,he,List.map_append,<-rm,aw];exact Np.Hq _ _)
   have pB:Hid (ks.length<=20000):=jq (by rw[<-rm];exact jL.out k);rw[rm] at HM HO;obtain⟨w2,ag⟩:=abK (wr.alloc (.cells #[.int .i64 x.host,.int .i64 x.frm,.int .i64 x.til,.string sn,.slice Az nz cz] 46));have ab:Below wr.heap.size wr w2:=by rw[<-ag];exact (vQ _ _).alloc (bQ _) _
   have aO:wr.heap.size<w2.heap.size:=by rw[<-ag];simp
   have p0:w2.cell? ⟨wr.heap.size,0,none⟩=some (.int .i64 x.host):=by rw[<-ag];simp[go_sem]
   have p1:w2.cell? ⟨wr.heap.size,1,none⟩=some (.int .i64 x.frm):=by rw[<-ag];simp[go_sem]
   have p2:w2.cell? ⟨wr.heap.size,2,none⟩=some (.int .i64 x.til):=by rw[<-ag];simp[go_sem]
   have p3:w2.cell? ⟨wr.heap.size,3,none⟩=some (.string sn):=by rw[<-ag];simp[go_sem]
   have p4:w2.cell? ⟨wr.heap.size,4,none⟩=some (.slice Az nz cz):=by rw[<-ag];simp[go_sem]
   have ai:=jq ab;have al:=HB.out.size;clear ac aw fh iU rm ab;go_wp2_with fail;refine (Q7 _ _ _ _ _ _).mono ?_;rintro e w3 ⟨rfl,ah⟩;have aB:=abJ ai ah;have fW:wr.heap.size<w3.heap.size:=by have:=ah.size;omega
   have om:Hid (di w.heap.size (Aw ks) w3):=jq (HM.out.keep aB.out bO);have ig:Hid (bV (w.heap.size+1) w3 _ ks):=jq (HO.out.keep aB.out);clear ah ag p0 p1 p2 p3 p4 f0 f1 f2 f3 f4;have js:=G6 (P:=prog) w3 111 9 4 underlying111 underlying9 w.heap.size _ om.out sn.data.toList (.bool false) (by kernel_rfl);unfold Aw at js;rw[MF] at js;by_cases hin:sn.data.toList∈ks
   ·have lO:Hid (Np.cU ((l.take (k+1)).map (·.zone.apex))=ks):=jq (by rw[HT.out,Np.JF hin]);rw[uQ hin] at js;clear hin;go_wp2_with fail;go_roundw
    case rel=>exact⟨k+1,by omega,by go_num,abJ HB aB.out,by omega,jq (by rw[lO.out];exact om.out),jq (by rw[lO.out];exact ig.out)⟩
    case measure=>simp[intOf] <;> omega
   ·have lO:Hid (Np.cU ((l.take (k+1)).map (·.zone.apex))=ks ++ [sn.data.toList]):=jq (by rw[HT.out,Np.jS,Qc hin]);have la:Hid ((Aw ks).lookup sn.data.toList=none):=jq (ME _ _ hin);rw[tQ hin] at js;clear hin;go_wp2_with (first
     | (at_mapUpdate;refine OF _ rfl _ _ _ 111 rfl 9 4 underlying111 underlying9 w.heap.size _ rfl om.out sn.data.toList rfl (.bool true) rfl la.out ?_;intro w5 lD kG;have H5:=jq (And.intro lD kG);have lM:Hid (bV (w.heap.size+1) w5 _ ks):=jq (bV.turned ig.out kG (by omega));have kJ:wr.heap.size<w5.heap.size:=(by rw[kG.size];exact fW);clear lD kG)
     | (at_builtin;refine wn _ rfl _ _ rfl (w.heap.size+1) _ ks rfl (lM.out.alloc _) w5.heap.size sn.data.toList (by simp[go_sem]) (by simp[go_sem]) (by have:=pB.out;omega) (by simp;omega) ?_;intro v6 w6 mf aV;have H6:=jq (And.intro mf aV);clear mf aV))
    go_roundw
    case rel=>exact⟨k+1,by omega,by go_num,jq ((((HB.out.trans (aB.out.acQ)).trans (H5.out.2.below (bQ _))).alloc (by omega) _).trans (H6.out.2.acQ)),by have:=H6.out.2.size;simp at this;omega,jq (by rw[lO.out];unfold Aw;rw[List.map_append];exact (H5.out.1.keep ((vQ _ _).alloc (bQ _) _) (by omega)).keep H6.out.2 (by omega)),jq (by rw[lO.out];exact H6.out.1)⟩
    case measure=>simp[intOf] <;> omega
  ·have HE':Hid (l.take k=l):=jq (kQ (by omega));go_wp2_with fail;go_ret;exact⟨_,rfl,by have:=HO.out.weak (Nat.le_succ _);rw[HE'.out] at this;exact this,HB.out⟩
theorem ZJ{w:Np.WorldP} : Np.VWorld w↔(Np.VHosts w.hosts/\Np.nE w.hosts.length w.zones)/\Np.VRoot w.anchor w.hints:=
 ⟨λh=>⟨⟨h.hosts,h.each,h.apart⟩,h.root⟩,λh=>⟨h.1.1,h.2,h.1.2.1,h.1.2.2⟩⟩
theorem ZO(hv:Value)(hs:List Np.Host)(zv:Value)(l:List Np.Placed)(s:ByteArray)(al:s.size<=140737488355328)(ty life:Int)(dv:Value)(d:List Np.Datum)(cX:Value)(hints:List Int)(hl:l.length<=500)(hz:∀ p∈l,p.zone.sets.length<=20000)(w:World)(hR:f9 w w.heap.size)
 (hh:SlR kl 3 w w.heap.size hv hs) (hd:SlR sX 3 w w.heap.size zv l) (hdd:SlR bW 3 w w.heap.size dv d) (lv:SlR gL 1 w w.heap.size cX hints) :
 Calls prog 110 #[.agg #[hv,zv,.string s,.int .i64 ty,.int .i64 life,dv,cX]] w (aeJ w.heap.size w (.bool (Np.yes (Np.VWorld ⟨hs,l,⟨s.data.toList,ty,life,d⟩,hints⟩)))):=by
 obtain⟨r,hr⟩:=abK (Np.yes (Np.VWorld ⟨hs,l,⟨s.data.toList,ty,life,d⟩,hints⟩));rw[hr];have HR:Hid (Np.yes ((Np.VHosts hs/\Np.nE hs.length l)/\Np.VRoot ⟨s.data.toList,ty,life,d⟩ hints)=r):=jq (by rw[<-hr];exact (Np.r9 (ZJ (w:=⟨hs,l,⟨s.data.toList,ty,life,d⟩,hints⟩))).symm);have HH:=jq hh;have HD:=jq hd;have og:=jq hdd;have oj:=jq lv;have ii:=jq hR;obtain⟨A1,c1,rfl,_,_⟩:=aj hh;obtain⟨A2,c2,rfl,_,_⟩:=aj hd;obtain⟨A3,c3,rfl,_,_⟩:=aj hdd;obtain⟨A4,c4,rfl,_,_⟩:=aj lv;clear hr hd hR hh hdd lv;obtain⟨W1,am⟩:=abK (w.alloc (.cells #[.slice A1 hs.length c1,.slice A2 l.length c2,.string s,.int .i64 ty,.int .i64 life,.slice A3 d.length c3,.slice A4 hints.length c4] 68));have aI:Below w.heap.size w W1:=by rw[<-am];exact (vQ _ _).alloc (bQ _) _
 have kL:W1.heap.size=w.heap.size+1:=by rw[<-am];simp
 obtain⟨n1,bG⟩:=abK hs.length;obtain⟨n2,ct⟩:=abK l.length;obtain⟨n3,dL⟩:=abK d.length;obtain⟨n4,ef⟩:=abK hints.length;rw[bG,ct,dL,ef] at am;rw[bG] at HH HR;rw[ct] at HD;rw[dL] at og;rw[ef] at oj;rw[bG,ct,dL,ef];have k0:W1.cell? ⟨w.heap.size,0,none⟩=some (.slice A1 n1 c1):=by rw[<-am];simp[go_sem]
 have k1:W1.cell? ⟨w.heap.size,1,none⟩=some (.slice A2 n2 c2):=by rw[<-am];simp[go_sem]
 have k2:W1.cell? ⟨w.heap.size,2,none⟩=some (.string s):=by rw[<-am];simp[go_sem]
 have k3:W1.cell? ⟨w.heap.size,3,none⟩=some (.int .i64 ty):=by rw[<-am];simp[go_sem]
 have k4:W1.cell? ⟨w.heap.size,4,none⟩=some (.int .i64 life):=by rw[<-am];simp[go_sem]
 have k5:W1.cell? ⟨w.heap.size,5,none⟩=some (.slice A3 n3 c3):=by rw[<-am];simp[go_sem]
 have k6:W1.cell? ⟨w.heap.size,6,none⟩=some (.slice A4 n4 c4):=by rw[<-am];simp[go_sem]
 have aL:=jq aI;have HN:=jq (And.intro bG (And.intro ct (And.intro dL ef)));clear aI bG ct dL ef;go_enter func110,ntmps110;go_wp2_with fail;refine (ZC _ hs _ (HH.out.later nl vT aL.out)).mono ?_;rintro e w2 ⟨rfl,ab⟩;replace k0:=abZ ab k0;replace k1:=abZ ab k1;replace k2:=abZ ab k2;replace k3:=abZ ab k3;replace k4:=abZ ab k4;replace k5:=abZ ab k5;replace k6:=abZ ab k6;have aO:=ab.size;have ai:=abJ aL ab;clear ab am;obtain⟨b1,an⟩:=abK (Np.yes (Np.VHosts hs));rw[an];have qN:=jq an;clear an
 cases b1 with
 | false=>
  have HX:Hid (r=false):=jq (by rw[<-HR.out];exact Np.aK λq=>by have:=Np.bS q.1.1;rw[qN.out] at this;cases this);go_wp2_with fail;go_ret;exact⟨ae HX.out.symm,ai.out⟩
 | true=>
  go_wp2_with fail;refine (ZA _ n1 ⟨_,_,rfl⟩ _ l _ ty life _ _ s rfl hl hz _ ((ii.out.keep ai.out).more ai.out.size) (HD.out.later C7 G5 ai.out)).mono ?_;rintro e w3 ⟨rfl,ah⟩;replace k0:=abZ ah k0;replace k1:=abZ ah k1;replace k2:=abZ ah k2;replace k3:=abZ ah k3;replace k4:=abZ ah k4;replace k5:=abZ ah k5;replace k6:=abZ ah k6;have fW:=ah.size;have aB:=abJ ai ah;clear ah;obtain⟨b2,ab⟩:=abK (Np.yes (Np.nE n1 l));rw[ab];have xD:=jq ab;clear ab
  cases b2 with
  | false=>
   have HX:Hid (r=false):=jq (by rw[<-HR.out];exact Np.aK λq=>by have:=Np.bS q.1.2;rw[xD.out] at this;cases this);go_wp2_with fail;go_ret;exact⟨ae HX.out.symm,aB.out⟩
  | true=>
   go_wp2_with fail;refine (ZD s al ty life _ d _ hints _ ((ii.out.keep aB.out).more aB.out.size) (og.out.later cu cS aB.out) (oj.out.later kM t8 aB.out)).mono ?_;rintro e w4 ⟨rfl,aq⟩;have bJ:=jq (aB.out.trans (aq.mono aB.out.size));clear aq;have HX:Hid (Np.yes (Np.VRoot ⟨s.data.toList,ty,life,d⟩ hints)=r):=jq (by
    rw[<-HR.out];exact Np.r9 ⟨λq=>⟨⟨Np.fo.1 qN.out,Np.fo.1 xD.out⟩,q⟩,λq=>q.2⟩)
   rw[HX.out];go_wp2_with fail;go_ret;exact⟨rfl,bJ.out⟩
end
section
open Go.RowKit Go.MapKept Go.Shelf Go.Sort
theorem Uf(f u f' u':Int)(w:World) :
 Calls prog 122 #[.agg #[.int .i64 f,.int .i64 u],.agg #[.int .i64 f',.int .i64 u']] w λe w'=>e = .returned (.int .i64 (Np.b7 f f'))/\∃ q os,w'=grow (w.drewN q) os:=by
 go_enter func122,ntmps122;go_wp2_with (go_at_call 123;refine (xS _ _ _).mono ?_;rintro e w' ⟨rfl,rfl⟩);go_ret;exact⟨rfl,0,_,by rw[alloc_eq_grow,alloc_eq_grow,grow_grow];rfl⟩
def Np.qP(h:Np.Hist):Prop:=(1<=h.stop/\h.stop<=10000000)/\(0<=h.drift/\h.drift<=1000)
theorem ZH{h:Np.Hist} : Np.VHist h↔((Np.qP h/\Np.VWorld ⟨h.hosts,[],h.anchor,h.hints⟩)/\∀ c∈h.copies,Np.CopyOk h c)/\h.copies.Pairwise λc d=>¬ Np.ja c d:=
 ⟨λv=>⟨⟨⟨⟨v.stop,v.drift⟩,v.hosts,v.root,λp hp=>(by cases hp),List.Pairwise.nil⟩,v.each⟩,v.apart⟩,λv=>⟨v.1.1.1.1,v.1.1.1.2,v.1.1.2.hosts,v.1.1.2.root,v.1.2,v.2⟩⟩
structure pi(W:World)(X:Nat)(hv cv:Value)(stop:Int):Prop where
 c0:W.cell? ⟨X,0,none⟩=some hv
 c1:W.cell? ⟨X,1,none⟩=some cv
 c8:W.cell? ⟨X,8,none⟩=some (.int .i64 stop)
 lt:X<W.heap.size
theorem pi.keep{W W':World}{X B:Nat}{hv cv:Value}{stop:Int}(h:pi W X hv cv stop)(hb:Below B W W')(hB:X<B):pi W' X hv cv stop:=⟨(hb.cell hB).trans h.c0,(hb.cell hB).trans h.c1,(hb.cell hB).trans h.c8,lQ h.lt hb.size⟩
theorem pi.turned{W W':World}{X r:Nat}{hv cv:Value}{stop:Int}(h:pi W X hv cv stop)(ht:Turned r W W')(hr:X≠r):pi W' X hv cv stop:=⟨(ht.cell hr).trans h.c0,(ht.cell hr).trans h.c1,(ht.cell hr).trans h.c8,by rw[ht.size];exact h.lt⟩
theorem ST{xs xs6:List ep}{l:List Np.Copy}{c:Np.Copy}{j:Nat}{g:List Np.Span}{v v':Value}(h:Np.GrpI (xs.map λx=>(x.1,x.2.1)) l)(hc:(xs6=xs/\xs[j]?=some (Np.fi c,g,v))\/(Np.fi c∉xs.map (·.1)/\xs6=xs ++ [(Np.fi c,[],.slice none 0 0)]/\j=xs.length/\g = []/\v = .slice none 0 0)):Np.GrpI ((xs6.set j (Np.fi c,g ++ [Np.iY c],v')).map λx=>(x.1,x.2.1)) (l ++ [c]):=by
 rcases hc with ⟨rfl,hj⟩ | ⟨hn,rfl,rfl,rfl,rfl⟩
 ·rw[List.map_set];exact h.old (by rw[List.getElem?_map,hj];rfl)
 ·rw[List.set_append_right _ _ (bQ _),Nat.sub_self,List.set_cons_zero,List.map_append];exact h.new (by rw[List.map_map];exact hn)
theorem Ln(hv:Value)(hs:List Np.Host)(cv:Value)(l:List Np.Copy)(s:ByteArray)(al:s.size<=140737488355328)(ty life:Int)(dv:Value)(d:List Np.Datum)(cX:Value)(hints:List Int)(drift stop:Int)(hl:l.length<=500)(hz:∀ p∈l,p.zone.sets.length<=20000)(w:World)(hR:f9 w w.heap.size)
 (hh:SlR kl 3 w w.heap.size hv hs) (hd:SlR mG 5 w w.heap.size cv l) (hdd:SlR bW 3 w w.heap.size dv d) (lv:SlR gL 1 w w.heap.size cX hints) :
 Calls prog 56 #[.agg #[hv,cv,.string s,.int .i64 ty,.int .i64 life,dv,cX,.int .i64 drift,.int .i64 stop]] w λe w'=>e = .returned (.bool (Np.yes (Np.VHist ⟨hs,l,⟨s.data.toList,ty,life,d⟩,hints,drift,stop⟩)))/\Below w.heap.size w w':=by
 obtain⟨r,hr⟩:=abK (Np.yes (Np.VHist ⟨hs,l,⟨s.data.toList,ty,life,d⟩,hints,drift,stop⟩));obtain⟨gB,p8⟩:∃ h:Np.Hist,(⟨hs,l,⟨s.data.toList,ty,life,d⟩,hints,drift,stop⟩:Np.Hist)=h:=⟨_,rfl⟩;rw[hr];have HR:Hid (Np.yes (((Np.qP gB/\Np.VWorld ⟨hs,[],⟨s.data.toList,ty,life,d⟩,hints⟩)/\∀ c∈l,Np.CopyOk gB c)/\l.Pairwise λc d=>¬ Np.ja c d)=r):=jq (by rw[<-hr,<-p8];exact (Np.r9 (ZH (h:=⟨hs,l,⟨s.data.toList,ty,life,d⟩,hints,drift,stop⟩))).symm);have iG:Hid (Np.qP gB↔(1<=stop/\stop<=10000000)/\(0<=drift/\drift<=1000)):=jq (by rw[<-p8];exact Iff.rfl);have hZ:Hid (∀ c,Np.CopyOk gB c↔(0<=c.host/\c.host<hs.length)/\(0<=c.frm/\c.frm<c.til/\c.til<=stop)/\Np.VZone c.zone):=jq (λc=>by rw[<-p8];exact⟨λh=>⟨h.host,h.times,h.zone⟩,λh=>⟨h.1,h.2.1,h.2.2⟩⟩);have HH:=jq hh;have HD:=jq hd;have og:=jq hdd;have oj:=jq lv;have ii:=jq hR;have HZ:=jq hz;obtain⟨A1,c1,rfl,_,_⟩:=aj hh;obtain⟨A2,c2,rfl,_,_⟩:=aj hd;obtain⟨A3,c3,rfl,_,_⟩:=aj hdd;obtain⟨A4,c4,rfl,_,_⟩:=aj lv;clear hr p8 hd hR hh hdd lv hz;obtain⟨n1,bG⟩:=abK hs.length;obtain⟨n2,ct⟩:=abK l.length;obtain⟨n3,dL⟩:=abK d.length;obtain⟨n4,ef⟩:=abK hints.length;rw[bG] at HH hZ |-;rw[ct] at HD hl |-;rw[dL] at og |-;rw[ef] at oj |-;have HN:=jq (And.intro bG (And.intro ct (And.intro dL ef)));clear bG ct dL ef;obtain⟨W1,am⟩:=abK (w.alloc (.cells #[.slice A1 n1 c1,.slice A2 n2 c2,.string s,.int .i64 ty,.int .i64 life,.slice A3 n3 c3,.slice A4 n4 c4,.int .i64 drift,.int .i64 stop] 29));have aI:Below w.heap.size w W1:=by rw[<-am];exact (vQ _ _).alloc (bQ _) _
 have kL:W1.heap.size=w.heap.size+1:=by rw[<-am];simp
 obtain⟨X,hX⟩:=abK w.heap.size;have gK:=jq hX;have k0:W1.cell? ⟨X,0,none⟩=some (.slice A1 n1 c1):=by rw[<-am,<-hX];simp[go_sem]
 have k1:W1.cell? ⟨X,1,none⟩=some (.slice A2 n2 c2):=by rw[<-am,<-hX];simp[go_sem]
 have k2:W1.cell? ⟨X,2,none⟩=some (.string s):=by rw[<-am,<-hX];simp[go_sem]
 have k3:W1.cell? ⟨X,3,none⟩=some (.int .i64 ty):=by rw[<-am,<-hX];simp[go_sem]
 have k4:W1.cell? ⟨X,4,none⟩=some (.int .i64 life):=by rw[<-am,<-hX];simp[go_sem]
 have k5:W1.cell? ⟨X,5,none⟩=some (.slice A3 n3 c3):=by rw[<-am,<-hX];simp[go_sem]
 have k6:W1.cell? ⟨X,6,none⟩=some (.slice A4 n4 c4):=by rw[<-am,<-hX];simp[go_sem]
 have k7:W1.cell? ⟨X,7,none⟩=some (.int .i64 drift):=by rw[<-am,<-hX];simp[go_sem]
 have k8:W1.cell? ⟨X,8,none⟩=some (.int .i64 stop):=by rw[<-am,<-hX];simp[go_sem]
 rw[hX] at aI kL HH HD og oj ii;rw[hX];have aL:=jq aI;clear aI;go_enter func56,ntmps56;by_cases g1:stop<1
 ·have dg1:decide (stop<1)=true:=uQ g1;have HX:Hid (r=false):=jq (by rw[<-HR.out];exact Np.aK λq=>by have:=iG.out.1 q.1.1.1;omega);clear g1;go_wp2_with fail;go_ret;exact⟨ae HX.out.symm,aL.out⟩
 have dg1:decide (stop<1)=false:=tQ g1;by_cases g2:10000000<stop
 ·have dg2:decide (10000000<stop)=true:=uQ g2;have HX:Hid (r=false):=jq (by rw[<-HR.out];exact Np.aK λq=>by have:=iG.out.1 q.1.1.1;omega);clear g2;go_wp2_with fail;go_ret;exact⟨ae HX.out.symm,aL.out⟩
 have dg2:decide (10000000<stop)=false:=tQ g2;by_cases g3:drift<0
 ·have dg3:decide (drift<0)=true:=uQ g3;have HX:Hid (r=false):=jq (by rw[<-HR.out];exact Np.aK λq=>by have:=iG.out.1 q.1.1.1;omega);clear g3;go_wp2_with fail;go_ret;exact⟨ae HX.out.symm,aL.out⟩
 have dg3:decide (drift<0)=false:=tQ g3;by_cases g4:1000<drift
 ·have dg4:decide (1000<drift)=true:=uQ g4;have HX:Hid (r=false):=jq (by rw[<-HR.out];exact Np.aK λq=>by have:=iG.out.1 q.1.1.1;omega);clear g4;go_wp2_with fail;go_ret;exact⟨ae HX.out.symm,aL.out⟩
 have dg4:decide (1000<drift)=false:=tQ g4;have d5:decide (4000<(n2:Int))=false:=acJ;have DE:Hid (Np.qP gB):=jq (iG.out.2 (by omega));clear g1 g2 g3 g4;go_wp2_with fail;refine (ZO _ hs _ [] s al ty life _ d _ hints (by simp) (by simp) _ ((ii.out.keep aL.out).more (by omega)) ((HH.out.keep nl aL.out).more vT (by omega)) ⟨none,0,rfl,by simp,by simp,λi x hx=>by simp at hx⟩ ((og.out.keep cu aL.out).more cS (by omega)) ((oj.out.keep kM aL.out).more t8 (by omega))).mono ?_;rintro e w2 ⟨rfl,ab⟩;have aO:=ab.size;have AK:Hid (pi w2 X (.slice A1 n1 c1) (.slice A2 n2 c2) stop):=jq (pi.keep ⟨k0,k1,k8,by omega⟩ ab (by omega));have ai:=abJ aL ab;clear ab am k0 k1 k2 k3 k4 k5 k6 k7 k8;have k0:=AK.out.c0;have k1:=AK.out.c1;have KT:=AK.out.lt;obtain⟨b1,an⟩:=abK (Np.yes (Np.VWorld ⟨hs,[],⟨s.data.toList,ty,life,d⟩,hints⟩));rw[an];have qN:=jq an;clear an;have tF:∀ (w:World),(Instr.makeMap 184 none).run prog w = .ok (.map (some w.heap.size)) (w.alloc (.map #[] 0)):=λw=>by
  simp[Instr.makeMap,Result.andThen]
 cases b1 with
 | false=>
  have HX:Hid (r=false):=jq (by rw[<-HR.out];exact Np.aK λq=>by have:=Np.bS q.1.1.2;rw[qN.out] at this;cases this);go_wp2_with fail;go_ret;exact⟨ae HX.out.symm,ai.out⟩
 | true=>
  go_wp2_with fail;obtain⟨wm,zI⟩:=abK (w2.alloc (.map #[] 0));obtain⟨X1,nL⟩:=abK w2.heap.size;have sI:Hid (MapX (X1+1) X1 [] wm):=jq (by rw[<-zI,<-nL];exact MapX.made _ _);have hzm:wm.heap.size=X1+1:=by rw[<-zI,<-nL];simp
  have rc:Below X1 w2 wm:=by rw[<-zI,<-nL];exact (vQ _ _).alloc (bQ _) _
  have FC:X<X1:=by omega
  have DK:Hid (pi wm X (.slice A1 n1 c1) (.slice A2 n2 c2) stop):=jq (AK.out.keep rc FC);have DL:=abJ ai rc;rw[zI,nL];clear zI nL rc k0 k1;have fE:Hid (l.length=n2):=jq HN.out.2.1;go_loopw [47] (λi wr=>∃ (k:Nat) (xs:List ep),k<=n2/\i = .int .i64 k/\X1<wr.heap.size/\Hid (Below X1 wm wr)/\Hid (MapX (X1+1) X1 xs wr)/\Hid (Np.GrpI (xs.map λx=>(x.1,x.2.1)) (l.take k))/\Hid (∀ c∈l.take k,Np.CopyOk gB c)) (λi _=>n2 - (intOf i).toNat)
  case atStart=>exact⟨0,[],jQ _,rfl,by omega,jq (vQ _ _),sI,jq Np.GrpI.nil,jq (by simp)⟩
  case round=>
   obtain⟨k,xs,hk,rfl,bO,cw,HM,HG,bk⟩:=hrel;have HB:=abJ DL cw.out;have g9:=jq (DK.out.keep cw.out FC);have k0:=g9.out.c0;have k8:=g9.out.c8;by_cases aa:k<n2
   ·obtain⟨x,ac⟩:∃ x,l[k]?=some x:=⟨_,aQ (by rw[fE.out];exact aa)⟩;obtain⟨b,o,sn,vz,rfl,bp,aw,cE,fh,f0,f1,f2,f3,f4⟩:=ta (HD.out.keep nj HB.out) ac;obtain⟨Az,cz,rfl,_,_⟩:=aj fh;obtain⟨nz,iU⟩:=abK x.zone.sets.length;rw[iU] at f4;have HT:Hid (l.take (k+1)=l.take k ++ [x]):=jq (by
     obtain⟨hl,he⟩:=cQ.1 ac;rw[fQ hl,he])
    have HF:Hid (¬ Np.CopyOk gB x->r=false):=jq (λh=>by rw[<-HR.out];exact Np.aK λq=>h (q.1.2 x (gQ ac)));have xF:Hid (x.zone.sets.length<=20000):=jq (HZ.out x (gQ ac));have aS:=jq aw;have lh:Hid (SlR cA 5 wr wr.heap.size (.slice Az nz cz) x.zone.sets):=jq (by rw[<-iU];exact fh.more eF (by omega));obtain⟨w3,cI⟩:=abK (wr.alloc (.cells #[.int .i64 x.host,.int .i64 x.frm,.int .i64 x.til,.string sn,.slice Az nz cz] 46));have fW:w3.heap.size=wr.heap.size+1:=by rw[<-cI];simp
    have ah:Below wr.heap.size wr w3:=by rw[<-cI];exact (vQ _ _).alloc (bQ _) _
    have p0:w3.cell? ⟨wr.heap.size,0,none⟩=some (.int .i64 x.host):=by rw[<-cI];simp[go_sem]
    have p1:w3.cell? ⟨wr.heap.size,1,none⟩=some (.int .i64 x.frm):=by rw[<-cI];simp[go_sem]
    have p2:w3.cell? ⟨wr.heap.size,2,none⟩=some (.int .i64 x.til):=by rw[<-cI];simp[go_sem]
    have p3:w3.cell? ⟨wr.heap.size,3,none⟩=some (.string sn):=by rw[<-cI];simp[go_sem]
    have p4:w3.cell? ⟨wr.heap.size,4,none⟩=some (.slice Az nz cz):=by rw[<-cI];simp[go_sem]
    have q0:w3.cell? ⟨X,0,none⟩=some (.slice A1 n1 c1):=abZ ah k0;have q8:w3.cell? ⟨X,8,none⟩=some (.int .i64 stop):=abZ ah k8;have aB:=abJ HB ah;have DN:=abJ cw ah;have om:=jq (HM.out.keep ah);have xC:Hid (SlR cA 5 w3 w3.heap.size (.slice Az nz cz) x.zone.sets):=jq ((lh.out.keep bI ah).more eF ah.size);clear ac aw fh iU ah lh;by_cases g1:x.host<0
    ·have dg1:decide (x.host<0)=true:=uQ g1;have HX:Hid (r=false):=jq (HF.out λh=>by have:=(hZ.out x).1 h;omega);clear g1;go_wp2_with fail;go_ret;exact⟨ae HX.out.symm,aB.out⟩
    have dg1:decide (x.host<0)=false:=tQ g1;by_cases g2:(n1:Int)<=x.host
    ·have dg2:decide ((n1:Int)<=x.host)=true:=uQ g2;have HX:Hid (r=false):=jq (HF.out λh=>by have:=(hZ.out x).1 h;omega);clear g2;go_wp2_with fail;go_ret;exact⟨ae HX.out.symm,aB.out⟩
    have dg2:decide ((n1:Int)<=x.host)=false:=tQ g2;by_cases g3:x.frm<0
    ·have dg3:decide (x.frm<0)=true:=uQ g3;have HX:Hid (r=false):=jq (HF.out λh=>by have:=(hZ.out x).1 h;omega);clear g3;go_wp2_with fail;go_ret;exact⟨ae HX.out.symm,aB.out⟩
    have dg3:decide (x.frm<0)=false:=tQ g3;by_cases g4:x.til<=x.frm
    ·have dg4:decide (x.til<=x.frm)=true:=uQ g4;have HX:Hid (r=false):=jq (HF.out λh=>by have:=(hZ.out x).1 h;omega);clear g4;go_wp2_with fail;go_ret;exact⟨ae HX.out.symm,aB.out⟩
    have dg4:decide (x.til<=x.frm)=false:=tQ g4;by_cases g5:stop<x.til
    ·have dg5:decide (stop<x.til)=true:=uQ g5;have HX:Hid (r=false):=jq (HF.out λh=>by have:=(hZ.out x).1 h;omega);clear g5;go_wp2_with fail;go_ret;exact⟨ae HX.out.symm,aB.out⟩
    have dg5:decide (stop<x.til)=false:=tQ g5;have wS:Hid ((0<=x.host/\x.host<n1)/\(0<=x.frm/\x.frm<x.til/\x.til<=stop)):=jq (by omega);clear g1 g2 g3 g4 g5;go_wp2_with fail;refine (OP sn cE _ x.zone.sets xF.out w3 ((ii.out.keep aB.out).more (by omega)) xC.out).mono ?_;rintro e w4 ⟨rfl,aq⟩;have gX:w3.heap.size<=w4.heap.size:=aq.size;have s0:w4.cell? ⟨wr.heap.size,0,none⟩=some (.int .i64 x.host):=abZ aq p0;have s1:w4.cell? ⟨wr.heap.size,1,none⟩=some (.int .i64 x.frm):=abZ aq p1;have s2:w4.cell? ⟨wr.heap.size,2,none⟩=some (.int .i64 x.til):=abZ aq p2;have s3:w4.cell? ⟨wr.heap.size,3,none⟩=some (.string sn):=abZ aq p3;have s4:w4.cell? ⟨wr.heap.size,4,none⟩=some (.slice Az nz cz):=abZ aq p4;have bJ:=abJ aB aq;have DO:=abJ DN aq;have Ed:=jq (om.out.keep aq);clear aq p0 p1 p2 p3 p4 cI f0 f1 f2 f3 f4 q0 q8 k0 k8 om;obtain⟨rz,dN⟩:=abK (Np.yes (Np.VZone ⟨sn.data.toList,x.zone.sets⟩));rw[dN];have ij:=jq dN;clear dN
    cases rz with
    | false=>
     have HX:Hid (r=false):=jq (HF.out λh=>by
      have h1:=((hZ.out x).1 h).2.2;have h2:x.zone=⟨sn.data.toList,x.zone.sets⟩:=by rw[aS.out]
      rw[h2] at h1;have h3:=Np.bS h1;rw[ij.out] at h3
      cases h3)
     go_wp2_with fail;go_ret;exact⟨ae HX.out.symm,bJ.out⟩
    | true=>
     have sA:Hid (Np.CopyOk gB x):=jq ((hZ.out x).2 ⟨wS.out.1,wS.out.2,by
      have h2:x.zone=⟨sn.data.toList,x.zone.sets⟩:=by rw[aS.out]
      rw[h2];exact Np.fo.1 ij.out⟩)
     have En:Hid (∀ c∈l.take (k+1),Np.CopyOk gB c):=jq (λc hc=>by
      rw[HT.out] at hc;rcases List.mem_append.1 hc with hc | hc
      ·exact bk.out c hc
      ·rw[List.mem_singleton] at hc;subst hc;exact sA.out)
     have nA:Hid (Np.fi x=(x.host,sn.data.toList)):=jq (by unfold Np.fi;rw[aS.out]);obtain⟨w5,aJ⟩:=abK (w4.alloc (.cells #[.int .i64 x.host,.string sn] 186));obtain⟨w6,dC⟩:=abK (w5.alloc (.cells #[.int .i64 x.frm,.int .i64 x.til] 110));have kJ:w5.heap.size=w4.heap.size+1:=by rw[<-aJ];simp
     have ke:w6.heap.size=w5.heap.size+1:=by rw[<-dC];simp
     have aF:Below w4.heap.size w4 w5:=by rw[<-aJ];exact (vQ _ _).alloc (bQ _) _
     have aV:Below w4.heap.size w4 w6:=by rw[<-dC];exact aF.alloc (by omega) _
     have t0:w5.cell? ⟨w4.heap.size,0,none⟩=some (.int .i64 x.host):=by rw[<-aJ];simp[go_sem]
     have t1:w5.cell? ⟨w4.heap.size,1,none⟩=some (.string sn):=by rw[<-aJ];simp[go_sem]
     have u1:w5.cell? ⟨wr.heap.size,1,none⟩=some (.int .i64 x.frm):=abZ aF s1;have u2:w5.cell? ⟨wr.heap.size,2,none⟩=some (.int .i64 x.til):=abZ aF s2;have y0:w6.cell? ⟨w5.heap.size,0,none⟩=some (.int .i64 x.frm):=by rw[<-dC];simp[go_sem]
     have y1:w6.cell? ⟨w5.heap.size,1,none⟩=some (.int .i64 x.til):=by rw[<-dC];simp[go_sem]
     have PX:=jq (Ed.out.keep aV);have cF:=abJ bJ aV;have Pp:=abJ DO aV;have iI:Hid (∀ (j:Nat) (g:List Np.Span) (v:Value),xs[j]?=some ((x.host,sn.data.toList),g,v)->g.length<=500):=jq (λj g v hj=>by
      have h1:=HG.out.each ((x.host,sn.data.toList),g) (List.mem_map.2 ⟨_,gQ hj,rfl⟩);simp only at h1;rw[h1];unfold Np.eM;rw[List.length_map];refine yQ (List.length_filter_le _ _) ?_;rw[List.length_take,fE.out];omega)
     clear aF aV;go_wp2_with (first
      | (refine Z0 _ rfl _ _ rfl (X1+1) X1 xs rfl PX.out (Nat.lt_succ_self _) (x.host,sn.data.toList) rfl ?_;intro w7 j7 g7 v7 xs7 FP Lo LA zA;have wK:=jq FP;have D7:=jq Lo;have Ee:=jq LA;have Qy:=jq zA;have y0':w7.cell? ⟨w5.heap.size,0,none⟩=some (.int .i64 x.frm):=(zA.cell (by dsimp only;omega)).trans y0;have y1':w7.cell? ⟨w5.heap.size,1,none⟩=some (.int .i64 x.til):=(zA.cell (by dsimp only;omega)).trans y1;have rN:w7.heap.size=w6.heap.size:=zA.size;have AZ:Hid (g7.length<=100000):=jq (by rcases FP with ⟨_,hj⟩ | ⟨_,_,_,rfl,_⟩;exact yQ (iI.out _ _ _ hj) (by omega);simp);clear FP Lo LA zA)
      | (at_builtin;refine ZX _ rfl _ _ rfl (X1+1) v7 g7 rfl (Ee.out.row _ (gQ D7.out)) w5.heap.size x.frm x.til (by simp[go_sem]) y0' y1' AZ.out (by omega) ?_;intro v8 w8 gi dl KW;have H8:=jq (And.intro gi (And.intro dl KW));have vI:w7.heap.size<=w8.heap.size:=dl.size;clear gi dl KW)
      | (refine ZZ _ w7 rfl _ _ _ rfl (X1+1) X1 xs7 Ee.out (Nat.lt_succ_self _) j7 (x.host,sn.data.toList) g7 (g7 ++ [⟨x.frm,x.til⟩]) v7 v8 D7.out H8.out.2.1 H8.out.1 H8.out.2.2 rfl rfl rfl ?_;intro w9 LB L4;have H9:=jq (And.intro LB L4);clear LB L4))
     go_roundw
     case rel=>
      have e9:Below X1 wm w9:=((Pp.out.trans (Qy.out.below (bQ _))).grown H8.out.2.1 (by omega) (λq hq=>by have:=(World.ownsRow.lt (Ee.out.row _ (gQ D7.out)) q hq).1;omega)).trans (H9.out.2.below (bQ _));refine⟨k+1,_,by omega,by go_num,by rw[H9.out.2.size];omega,jq e9,jq H9.out.1,jq ?_,En⟩;rw[HT.out];have hc:=wK.out;rw[<-nA.out] at hc
      have:=ST (v':=v8) HG.out hc
      rw[nA.out] at this;exact this
     case measure=>simp[intOf] <;> omega
   ·have jO:Hid (l.take k=l):=jq (kQ (by rw[fE.out];omega));have pt:Hid (Np.GrpI (xs.map λx=>(x.1,x.2.1)) l):=jq (by have:=HG.out;rwa [jO.out] at this);have xi:Hid (∀ c∈l,Np.CopyOk gB c):=jq (by have:=bk.out;rwa [jO.out] at this);have k1:=g9.out.c1;clear HG bk jO k0 k8;go_wp2_with (at_range;refine Z2 _ rfl _ rfl (X1+1) X1 xs rfl HM.out ?_;intro w10 LS yr Vr;have Jb:=jq LS;have DC:=abJ cw yr;clear LS yr);go_frame;obtain⟨I,hI⟩:=abK wr.heap.size;rw[hI] at Jb Vr;rw[hI];have aeX:X1<I:=by omega
    have IP:Hid (∀ x∈xs,x.2.1.length<=500/\∀ t∈x.2.1,t.frm<t.til):=jq (λx hx=>by
     have h1:=pt.out.each (x.1,x.2.1) (List.mem_map.2 ⟨x,hx,rfl⟩);simp only at h1;rw[h1];refine⟨?_,λt ht=>?_⟩
     ·unfold Np.eM;rw[List.length_map];refine yQ (List.length_filter_le _ _) ?_;rw[fE.out];omega
     ·obtain⟨c,hc,rfl⟩:=List.mem_map.1 ht;exact (((hZ.out c).1 (xi.out c (List.mem_filter.1 hc).1)).2.1).2.1)
    have sk:Hid ((l.Pairwise λc d=>¬ Np.ja c d)↔∀ x∈xs,x.2.1.Pairwise λa b=>¬ Np.mF a b):=jq (pt.out.ok.trans ⟨λh x hx=>h (x.1,x.2.1) (List.mem_map.2 ⟨x,hx,rfl⟩),λh y hy=>by
     obtain⟨x,hx,rfl⟩:=List.mem_map.1 hy;exact h x hx⟩)
    have aaY:=DK;clear g9 HM cw HB hI bO k1;go_loopw [] (λwq=>∃ (seen:Array Nat) (xs':List ep),I<wq.heap.size/\Hid (Below X1 wm wq)/\Hid (RangeX (X1+1) X1 I xs' seen wq)/\Hid (xs'.length=xs.length/\∀ (j:Nat) (x':ep),xs'[j]?=some x'->∃ x:ep,xs[j]?=some x/\x'.2.1.Perm x.2.1)/\Hid (∀ (j:Nat) (x:ep),seen.contains j=true->xs[j]?=some x->x.2.1.Pairwise λa b=>¬ Np.mF a b)) (λwq=>wq.rangeLeft X1 I)
    case atStart=>exact⟨#[],xs,by omega,DC,Jb,jq ⟨rfl,λj x hx=>⟨x,hx,List.Perm.refl _⟩⟩,jq (by simp)⟩
    case round=>
     obtain⟨seen,xs',Fr,DM,Qt,Bk,I9⟩:=hrel;have Pi:=jq (DK.out.keep DM.out FC);have k1:=Pi.out.c1;go_wp2_with (at_next;refine Z1 _ rfl _ rfl (X1+1) X1 I xs' seen rfl Qt.out (λl7=>?_) (λj p g v w11 hj Gj CC Gb hen=>?_))
     ·have mB:Hid (l.Pairwise λc d=>¬ Np.ja c d):=jq (sk.out.2 λx hx=>by
       obtain⟨j,hj,rfl⟩:=nQ.1 hx;exact I9.out j _ (l7 j (by rw[Bk.out.1];exact hj)) (aQ hj))
      have jb:=abJ DL DM.out;refine (Om _ l (by rw[fE.out];omega) _ ((HD.out.keep nj jb.out).more zX (by omega))).mono ?_;rintro e w13 ⟨v13,rfl,zi,yt⟩;obtain⟨A13,c13,rfl⟩:=bV.form zi;have DD:=abJ jb yt;have F9:(Np.cU (l.map (·.zone.apex))).length<=500:=by
       have:=Np.wl (l.map (·.zone.apex))
       rw[List.length_map,fE.out] at this;omega
      obtain⟨m13,zb⟩:=abK ((Np.cU (l.map (·.zone.apex))).length);rw[zb] at F9 |-;have d13:decide ((m13:Int)<=500)=true:=acK;clear zi yt zb;go_wp2_with fail;go_ret;exact⟨ae (by rw[<-HR.out];exact (Np.bS ⟨⟨⟨DE.out,Np.fo.1 qN.out⟩,xi.out⟩,mB.out⟩).symm),DD.out⟩
     ·obtain⟨xj,GE,Gf⟩:=Bk.out.2 j _ hj;have Cp:g.length=xj.2.1.length:=Gf.length_eq;have Us:=(IP.out xj (gQ GE)).1;have I6:=jq Gf;have Bp:=jq GE;have HJ:=jq hj;have Ez:=jq Gj;have acZ:=jq CC;have abY:=jq Gb;have adY:I<w11.heap.size:=by rw[CC.size];exact Fr
      have OZ:Hid (Below X1 wm w11):=jq (DM.out.trans (CC.below (by omega)));refine (N6 _ Uf (enters_of func122 (by kernel_rfl) rfl) (X1+1) v g w11 (Ez.out.mapX.row _ (gQ (by exact HJ.out))) (by omega)).mono ?_;rintro e w12 ⟨rfl,ys,hp,rG,Cu,ve⟩;have Qr:Hid (RangeX (X1+1) X1 I (xs'.set j (p,ys,v)) (seen.push j) w12):=jq (Ez.out.changed (Nat.lt_succ_self _) HJ.out ve Cu);have lN:Hid (Np.ET ys↔xj.2.1.Pairwise λa b=>¬ Np.mF a b):=jq (Np.Yq (hp.trans I6.out) rG (IP.out xj (gQ Bp.out)).2);have I8:Hid (ys.Perm xj.2.1):=jq (hp.trans I6.out);have fV:∀ q,v.ownBlock=some q->X1+1<=q:=λq hq=>(World.ownsRow.lt (Ez.out.mapX.row _ (gQ (by exact HJ.out))) q hq).1;have sm:Hid (Below X1 wm w12):=jq (OZ.out.grown ve (by omega) (λq hq=>by have:=fV q hq;omega));have UR:w12.rangeLeft X1 I<wr.rangeLeft X1 I:=by
       have e:w12.rangeLeft X1 I=w11.rangeLeft X1 I:=Nj (ve.block X1 (by omega) (λe=>by have:=fV _ e.symm;omega)) (ve.block I (by omega) (λe=>by have:=Gj.row _ (gQ hj);exact this e.symm));rw[e];exact Gb
      have atX:I<w12.heap.size:=by have:=ve.size;omega
      have Jd:Hid (SlR cB 2 w12 w12.heap.size v ys):=jq (aG.slr Cu (by have:=hp.length_eq;omega));have PF:Hid (¬ Np.ET ys->r=false):=jq (λh=>by
       rw[<-HR.out];refine Np.aK λq=>h (lN.out.2 ?_);exact (sk.out.1 q.2) xj (gQ Bp.out))
      have Vn:ys.length<=500:=by rw[I8.out.length_eq];exact Us
      obtain⟨Av,cv,rfl⟩:=aG.form Cu;obtain⟨wo,rfl⟩:=abX wr;clear hp rG Cu ve Gj CC Gb hen hj GE Gf fV k1;obtain⟨ny,mc⟩:=abK ys.length;rw[mc] at Vn Jd;rw[mc];have IY:=jq mc;clear mc;go_wp2_with fail;go_loopw [9] (λi wi=>∃ q:Nat,1<=q/\(q<=ny\/q=1)/\i = .int .i64 q/\Hid (Below w12.heap.size w12 wi)/\Hid (∀ t (h:t+1<ys.length),t+1<q->ys[t].til<=ys[t+1].frm)) (λi _=>ny - (intOf i).toNat)
      case atStart=>exact⟨1,bQ _,.inr rfl,rfl,jq (vQ _ _),jq (λt h h2=>by omega)⟩
      case round=>
       obtain⟨q,Gh,jr,rfl,cr,HQ⟩:=hrel;have rO:=cr.out.size;by_cases Lv:q<ny
       ·obtain⟨m,hm⟩:∃ m,q=m+1:=⟨q - 1,by omega⟩;have mc:=IY.out;have vt:m<ys.length:=by omega
        have LQ:q<ys.length:=by omega
        obtain⟨a,ha⟩:∃ a,ys[m]?=some a:=⟨_,aQ vt⟩;obtain⟨b,hb⟩:∃ b,ys[q]?=some b:=⟨_,aQ LQ⟩;have AU:=Jd.out.keep bR cr.out;obtain⟨bb,oo,rfl⟩:=Aj (k:=m) AU vt;obtain⟨bq,FH⟩:=vW AU ha;obtain⟨_,FI⟩:=vW AU hb;have a0:=FH.c0;have a1:=FH.c1;have b0:=FI.c0;have b1:=FI.c1;have aM:IntKind.i64.wrap ((q:Int) - 1)=(m:Int):=by rw[show (q:Int) - 1=m by omega];simp[IntKind.wrap,IntKind.bits,IntKind.signed];omega
        have i1:(0:Int)<=(q:Int):=by omega
        have i2:(q:Int)<(ny:Int):=by omega
        have i3:(0:Int)<=(m:Int):=by omega
        have i4:(m:Int)<(ny:Int):=by omega
        have i5:m<ny:=by omega
        have uj:Hid (b.frm<a.til->r=false):=jq (λaa=>PF.out λmg=>by
         have h1:=mg m (by omega);obtain⟨e1,e2⟩:=cQ.1 ha;obtain⟨e3,e4⟩:=cQ.1 hb;subst hm;rw[e2,e4] at h1;omega)
        have Iw:Hid (¬ b.frm<a.til->∀ t (h:t+1<ys.length),t+1<q+1->ys[t].til<=ys[t+1].frm):=jq (λnR t h h2=>by
         by_cases e:t=m
         ·subst e;obtain⟨e1,e2⟩:=cQ.1 ha;obtain⟨e3,e4⟩:=cQ.1 hb;subst hm;rw[e2,e4];omega
         ·exact HQ.out t h (by omega))
        obtain⟨af,au⟩:=a;obtain⟨bf,bu⟩:=b;dsimp only at a0 a1 b0 b1 uj Iw;clear ha hb AU FH FI hm mc vt LQ bq;by_cases pS:bf<au
        ·have dd:decide (bf<au)=true:=uQ pS;have HX:=jq (uj.out pS);have jb:=jq (DL.out.trans ((sm.out.trans (cr.out.acQ)).acQ));clear pS;go_wp2_with fail;go_quiet (fail);go_wp2_with fail;go_ret;exact⟨ae HX.out.symm,below_drewN jb.out _⟩
        ·have dd:decide (bf<au)=false:=tQ pS;have HX:=jq (Iw.out pS);clear pS;go_wp2_with fail;go_quiet (fail);go_wp2_with fail;go_roundw
         case rel=>exact⟨q+1,by omega,by omega,by go_num,jq (below_drewN cr.out _),HX⟩
         case measure=>simp[intOf] <;> omega
       ·have mB:Hid (xj.2.1.Pairwise λa b=>¬ Np.mF a b):=jq (lN.out.1 λt h=>HQ.out t h (by have:=IY.out;omega));go_wp2_with fail;go_roundw
        case rel=>
         refine⟨seen.push j,_,by omega,abJ sm cr.out,jq (Qr.out.keep cr.out),jq ⟨by rw[List.length_set];exact Bk.out.1,λj' x' hx'=>?_⟩,jq λj' x hs hx=>?_⟩
         ·rw[List.getElem?_set] at hx';split at hx'
          ·rename_i e;subst e;rw[Qb (cQ.1 HJ.out).1] at hx'
           cases hx'
           exact⟨xj,Bp.out,I8.out⟩
          ·exact Bk.out.2 j' x' hx'
         ·rw[Array.contains_push,Bool.or_eq_true] at hs;rcases hs with hs | hs
          ·exact I9.out j' x hs hx
          ·have e:j'=j:=by simpa using hs
           subst e
           have:=Bp.out
           rw[this] at hx
           cases hx
           exact mB.out
        case measure=>
         have e:=Nj (w:=w12) (w':=wr) (r:=X1) (I:=I) (cr.out.block _ (by omega)) (cr.out.block _ (by omega));rw[e];exact UR
end
section
open Go.RowKit
theorem Nh:∀ (o:List (List UInt8)) (a:List UInt8) (q:Nat) (hq:q<o.length),(∀ t (h:t<o.length),t<q->Np.aH o[t] a<0)->o[q]=a->Np.dT o a=o
 | [],_,_,hq,_,_=>by simp at hq
 | x::l,a,0,_,_,he=>by
   simp at he;subst he;rw[Np.dT,Qc (by rw[Np.ej.self];omega),Qb rfl]
 | x::l,a,q+1,hq,aa,he=>by
   have h0:=aa 0 (by simp) (by omega);rw[Np.dT,Qb (by simpa using h0),Nh l a q (by simpa using hq) (λt h ht=>aa (t+1) (by simpa using h) (by omega)) (by simpa using he)]
theorem GW:∀ (o:List (List UInt8)) (a:List UInt8) (q:Nat),q<=o.length->(∀ t (h:t<o.length),t<q->Np.aH o[t] a<0)->(∀ h:q<o.length,¬ Np.aH o[q] a<0/\o[q]≠a)->Np.dT o a=o.take q++a::o.drop q
 | [],a,q,_,_,_=>by simp[Np.dT]
 | x::l,a,0,_,_,hn=>by
   obtain⟨h1,h2⟩:=hn (by simp);simp at h1 h2;rw[Np.dT,Qc (by omega),Qc h2];rfl
 | x::l,a,q+1,hq,aa,hn=>by
   have h0:=aa 0 (by simp) (by omega);rw[Np.dT,Qb (by simpa using h0),GW l a q (by simpa using hq) (λt h ht=>aa (t+1) (by simpa using h) (by omega)) (λh=>hn (by simpa using h))];rfl
theorem YM{o:List (List UInt8)}{x:List UInt8}{m:Nat}(hm:m<o.length):(o.take (m+1)++x::o.drop (m+1)).set (m+1) o[m]=o.take m++o[m]::o.drop m:=by
 have h1:(o.take (m+1)).length=m+1:=by rw[List.length_take];omega
 rw[List.set_append_right _ _ (by omega),h1,Nat.sub_self,List.set_cons_zero,fQ hm,List.append_assoc,sQ hm];rfl
theorem NP{o:List (List UInt8)}{x a:List UInt8}{q:Nat}(hq:q<=o.length):(o.take q++x::o.drop q).set q a=o.take q++a::o.drop q:=by
 have h1:(o.take q).length=q:=by rw[List.length_take];omega
 rw[List.set_append_right _ _ (by omega),h1,Nat.sub_self,List.set_cons_zero]
theorem YN{o:List (List UInt8)}{x:List UInt8}{j t:Nat}(ht:t<j)(hj:j<=o.length):(o.take j++x::o.drop j)[t]?=o[t]?:=by
 rw[List.getElem?_append_left (by rw[List.length_take];omega),List.getElem?_take_of_lt ht]
theorem NS{o:List (List UInt8)}{x:List UInt8}{j:Nat}(hj:j<=o.length):(o.take j++x::o.drop j)[j]?=some x:=by
 have h1:(o.take j).length=j:=by rw[List.length_take];omega
 rw[oQ (by omega),h1,Nat.sub_self];rfl
theorem NR{o:List (List UInt8)}{x:List UInt8}{j:Nat}(hj:j<=o.length):(o.take j++x::o.drop j).length=o.length+1:=by
 rw[List.length_append,List.length_cons,List.length_take,List.length_drop];omega
theorem Nf:∀ (o:List (List UInt8)) (a:List UInt8),(Np.dT o a).length<=o.length+1
 | [],a=>by simp[Np.dT]
 | x::l,a=>by
   rw[Np.dT];split
   ·have:=Nf l a;simp;omega
   ·split <;> simp
theorem Ff:∀ (l o:List (List UInt8)),(l.foldl Np.dT o).length<=o.length+l.length
 | [],o=>by simp
 | a::l,o=>by
   have h1:=Ff l (Np.dT o a);have h2:=Nf o a;rw[List.foldl_cons,List.length_cons];omega
theorem Ks:∀ (l o:List (List UInt8)) (y:List UInt8),y∈l.foldl Np.dT o->y∈o\/y∈l
 | [],o,y,h=>.inl h
 | a::l,o,y,h=>by
   rcases Ks l _ y h with h1 | h1
   ·have:∀ (o:List (List UInt8)),y∈Np.dT o a->y∈o\/y=a:=by
     intro o
     induction o with
     | nil=>intro h;rw[Np.dT,List.mem_singleton] at h;exact .inr h
     | cons x l ih=>
      intro h;rw[Np.dT] at h;split at h
      ·rcases List.mem_cons.1 h with h | h
       ·exact .inl (by rw[h];simp)
       ·rcases ih h with h | h
        ·exact .inl (mQ _ h)
        ·exact .inr h
      ·split at h
       ·exact .inl h
       ·rcases List.mem_cons.1 h with h | h
        ·exact .inr h
        ·exact .inl h
    rcases this o h1 with h2 | h2
    ·exact .inl h2
    ·exact .inr (by rw[h2];simp)
   ·exact .inr (mQ _ h1)
theorem Ny{X:Nat}{w:World}{v:Value}{o:List (List UInt8)}{a:List UInt8}{N1:Nat}(h:bV X w v (o ++ [a]))(hN:o.length+1=N1):∃ g cap,v = .slice (some ⟨g,0,none⟩) N1 cap/\w.ownsRow X 9 1 (.slice (some ⟨g,0,none⟩) N1 cap) N1 ((o ++ [a]).map ay):=by
 have e:(o ++ [a]).length=N1:=by simp[hN]
 have h1:w.ownsRow X 9 1 v N1 ((o ++ [a]).map ay):=by rw[<-e];exact h
 rcases h1.2 with ⟨_,h2⟩ | ⟨g,cap,cur,rfl,_⟩
 ·omega
 ·exact⟨g,cap,rfl,h1⟩
theorem XW(v:Value)(l:List Np.Copy)(bn:l.length<=20000)(oI:∀ c∈l,c.zone.apex.length<=1000)(w:World)(h:SlR mG 5 w w.heap.size v l) :
 Calls prog 90 #[v] w λe w'=>∃ v',e = .returned v'/\bV w.heap.size w' v' (Np.apexes l)/\Below w.heap.size w w':=by
 rw[<-Np.JL];have HD:=jq h;have sk:=jq oI;obtain⟨A,c,rfl,aW,bh⟩:=aj h;clear h oI;obtain⟨X,hX⟩:=abK w.heap.size;rw[hX] at HD |-;have gK:=jq hX;clear hX;go_enter func90,ntmps90;go_wp2_with fail;go_loopw [3,4] (λvo i wr=>∃ (k:Nat) (o:List (List UInt8)),k<=l.length/\i = .int .i64 k/\X<=wr.heap.size/\Hid (Below X w wr)/\Hid (bV X wr vo o)/\Hid (((l.take k).map (·.zone.apex)).foldl Np.dT []=o)) (λ_ i _=>l.length - (intOf i).toNat)
 case atStart=>exact⟨0,[],jQ _,rfl,by rw[gK.out];exact bQ _,jq (vQ _ _),jq ⟨by simp,.inl ⟨rfl,rfl⟩⟩,jq rfl⟩
 case round=>
  obtain⟨k,o,hk,rfl,ym,HB,HO,HE⟩:=hrel;have ld:Hid (o.length<=20000):=jq (by have:=Ff ((l.take k).map (·.zone.apex)) [];rw[HE.out] at this;simp at this;omega);have Eo:Hid (∀ y∈o,y.length<=1000):=jq (λy hy=>by
   rw[<-HE.out] at hy;rcases Ks _ _ _ hy with h1 | h1
   ·cases h1
   ·obtain⟨c,hc,rfl⟩:=List.mem_map.1 h1;exact sk.out c (List.mem_of_mem_take hc))
  by_cases aa:k<l.length
  ·obtain⟨x,ac⟩:∃ x,l[k]?=some x:=⟨_,aQ aa⟩;obtain⟨b,oo,sn,vz,rfl,bp,aw,cE,fh,f0,f1,f2,f3,f4⟩:=ta (HD.out.keep nj HB.out) ac;have oi:Hid (((l.take (k+1)).map (·.zone.apex)).foldl Np.dT []=Np.dT o sn.data.toList):=jq (by
    obtain⟨hl,he⟩:=cQ.1 ac;rw[fQ hl,he,List.map_append,List.foldl_append,HE.out,aw];rfl)
   have UV:sn.size<=1000:=by
    have h1:=sk.out x (gQ ac);rw[<-aw,aX] at h1;exact h1
   obtain⟨A0,c0,rfl⟩:=bV.form HO.out;obtain⟨N,hN⟩:=abK o.length;have HN:=jq hN;have gq:Hid (wr.ownsRow X 9 1 (.slice A0 N c0) N (o.map ay)):=jq (by have:wr.ownsRow X 9 1 (.slice A0 o.length c0) o.length (o.map ay):=HO.out;rwa [hN] at this);have aeK:N<=20000:=by rw[<-hN];exact ld.out
   rw[hN] at HO;rw[hN];obtain⟨wo,rfl⟩:=abX wr;clear ac aw fh f4 hN;go_wp2_with fail;go_loopw [6] (λp wi=>∃ q:Nat,q<=N/\p = .int .i64 q/\Hid (Below wo.heap.size wo wi)/\Hid (∀ t (h:t<o.length),t<q->Np.aH o[t] sn.data.toList<0)) (λp _=>N - (intOf p).toNat)
   case atStart=>exact⟨0,jQ _,rfl,jq (vQ _ _),jq (λt h ht=>by omega)⟩
   case round=>
    obtain⟨q,UL,rfl,cr,HQ⟩:=hrel;have rO:=cr.out.size;have Be:Hid (wr.ownsRow X 9 1 (.slice A0 N c0) N (o.map ay)):=jq (cM gq.out (λg hg=>cr.out.block g (gq.out.lt g hg).2));by_cases hq:q<N
    ·obtain⟨g,rfl⟩:∃ g,A0=some ⟨g,0,none⟩:=by
      rcases Be.out.2 with ⟨h1,h2⟩ | ⟨g,cap,cur,h1,_⟩
      ·omega
      ·simp only[Value.slice.injEq] at h1;exact⟨g,h1.1⟩
     have LR:q<o.length:=by rw[HN.out];exact hq
     obtain⟨y,hy⟩:∃ y,o[q]?=some y:=⟨_,aQ LR⟩;have r0:wr.cell? ⟨g,q,none⟩=some (ay y):=by rw[Be.out.cellAt q (by omega),List.getElem?_map,hy];rfl
     have Vm:(⟨y.toArray⟩:ByteArray).size<=1000:=by
      have:=Eo.out y (gQ hy)
      rw[<-aX];exact this
     have HY:Hid (o[q]'LR=y):=jq (cQ.1 hy).2;have bE:=GZ ⟨y.toArray⟩ sn Vm UV;have e1:(⟨y.toArray⟩:ByteArray).data.toList=y:=rfl;rw[e1] at bE;have HC:=jq bE;clear bE e1 hy;by_cases eY:Np.aH y sn.data.toList<0
     ·have hd:decide (Np.aH y sn.data.toList<0)=true:=uQ eY;have sL:Hid (∀ t (h:t<o.length),t<q+1->Np.aH o[t] sn.data.toList<0):=jq (λt h ht=>by
       by_cases e:t=q
       ·subst e;rw[HY.out];exact eY
       ·exact HQ.out t h (by omega))
      obtain⟨cz,tp⟩:=abK (Np.aH y sn.data.toList);rw[tp] at hd HC;clear eY tp;unfold ay at r0;go_wp2_with (go_at_call 164;refine (HC.out _).mono ?_;rintro e w5 ⟨rfl,aF⟩;have cO:=jq (cr.out.trans (aF.mono rO));clear aF);go_roundw
      case rel=>exact⟨q+1,by omega,by go_num,jq cO.out,sL⟩
      case measure=>simp[intOf] <;> omega
     ·have hd:decide (Np.aH y sn.data.toList<0)=false:=tQ eY;have P2:=jq eY;obtain⟨cz,tp⟩:=abK (Np.aH y sn.data.toList);rw[tp] at hd HC;clear eY tp;unfold ay at r0;by_cases hey:y=sn.data.toList
      ·have bT:(y == sn.toList)=true:=by rw[dQ,hey];simp
       have xo:Hid (Np.dT o sn.data.toList=o):=jq (Nh o _ q LR HQ.out (by rw[HY.out];exact hey));clear hey;go_wp2_with (go_at_call 164;refine (HC.out _).mono ?_;rintro e w5 ⟨rfl,aF⟩;have r0':=(aF.cell (p:=⟨g,q,none⟩) (by have:=(Be.out.lt g rfl).2;dsimp only;omega)).trans r0;have cO:=jq (cr.out.trans (aF.mono rO));clear aF);go_roundw
       case rel=>exact⟨k+1,o,by omega,by go_num,by have:=cO.out.size;omega,jq (HB.out.trans (cO.out.mono ym)),jq (HO.out.keep cO.out),jq (by rw[oi.out,xo.out])⟩
       case measure=>simp[intOf] <;> omega
      ·have bT:(y == sn.toList)=false:=by rw[dQ];simpa using hey
       have xo:Hid (Np.dT o sn.data.toList=o.take q++sn.data.toList::o.drop q):=jq (GW o _ q (by omega) HQ.out (λh=>by rw[HY.out];exact⟨P2.out,hey⟩));clear hey;obtain⟨N1,lZ⟩:=abK (o.length+1);have Fw:=HN.out;have ak:IntKind.i64.wrap ((N1:Int) - 1)=(N:Int):=by rw[show (N1:Int) - 1=N by omega];simp[IntKind.wrap,IntKind.bits,IntKind.signed];omega
       have Tf:N+1=N1:=by omega
       have k9:=jq lZ;clear lZ Fw;go_wp2_with (first | (go_at_call 164;refine (HC.out _).mono ?_;rintro e w5 ⟨rfl,aF⟩;have r0':=(aF.cell (p:=⟨g,q,none⟩) (by have:=(Be.out.lt g rfl).2;dsimp only;omega)).trans r0;have cO:=jq (cr.out.trans (aF.mono rO));have lM:Hid (bV X w5 _ o):=jq (HO.out.keep cO.out);have FD:X<=w5.heap.size:=(by have:=cO.out.size;omega);clear aF) | (at_builtin;refine wn _ rfl _ _ rfl X _ o rfl (lM.out.alloc _) w5.heap.size sn.data.toList (by simp[go_sem]) (by simp[go_sem]) (by have:=ld.out;omega) (by simp;omega) ?_;intro v6 w6 mf aV;obtain⟨g6,cap6,rfl,zr⟩:=Ny mf k9.out;have EA:=jq zr;have cF:=jq ((((cO.out.mono ym).alloc FD _).trans aV));clear mf aV zr));have ke:X<=w6.heap.size:=by have:=cF.out.size;omega
       obtain⟨wj,GB⟩:=abX w6;clear GB;go_loopw [7] (λjv wi=>∃ (j:Nat) (z:List UInt8),q<=j/\j<=N/\jv = .int .i64 j/\X<=wi.heap.size/\Hid (Below X wo wi)/\Hid (wi.ownsRow X 9 1 (.slice (some ⟨g6,0,none⟩) N1 cap6) N1 ((o.take j++z::o.drop j).map ay))) (λjv _=>(intOf jv).toNat)
       case atStart=>exact⟨N,sn.data.toList,by omega,bQ _,rfl,ke,cF,jq (by rw[kQ (by rw[HN.out];exact bQ _),List.drop_eq_nil_of_le (by rw[HN.out];exact bQ _)];exact EA.out)⟩
       case round=>
        obtain⟨j,z,UM,F7,rfl,kL,AN,nC⟩:=hrel;have iS:j<=o.length:=by rw[HN.out];exact F7
        have B4:X<=g6/\g6<wr.heap.size:=nC.out.lt g6 rfl;have Cc:wr.cell? ⟨g6,j,none⟩=some (ay z):=by rw[nC.out.cellAt j (by omega),List.getElem?_map,NS iS];rfl
        have TW:wr.frozen? ⟨g6,j,none⟩=false:=nC.out.frozenAt j;have Uj:(0:Int)<=(j:Int):=by omega
        have Uk:(j:Int)<(N1:Int):=by omega
        have Ul:j<N1:=by omega
        by_cases LO:q<j
        ·obtain⟨m,hm⟩:∃ m,j=m+1:=⟨j - 1,by omega⟩;have vt:m<o.length:=by omega
         obtain⟨u,hu⟩:∃ u,o[m]?=some u:=⟨_,aQ vt⟩;have vG:o[m]=u:=(cQ.1 hu).2;have eY:wr.cell? ⟨g6,m,none⟩=some (ay u):=by rw[nC.out.cellAt m (by omega),List.getElem?_map,YN (by omega) iS,hu];rfl
         have hjw:IntKind.i64.wrap ((j:Int) - 1)=(m:Int):=by rw[show (j:Int) - 1=m by omega];simp[IntKind.wrap,IntKind.bits,IntKind.signed];omega
         have iu:(0:Int)<=(m:Int):=by omega
         have Gc:(m:Int)<(N1:Int):=by omega
         have gV:m<N1:=by omega
         have K9:decide ((q:Int)<(j:Int))=true:=acK;have cP:Hid ((wr.setCell ⟨g6,j,none⟩ (ay u)).ownsRow X 9 1 (.slice (some ⟨g6,0,none⟩) N1 cap6) N1 ((o.take m++u::o.drop m).map ay)):=jq (by
          have h1:=(World.ownsRow.stored nC.out j (ay u)).1;rw[<-List.map_set] at h1;subst hm;rw[<-vG,YM vt,vG] at h1;exact h1)
         have iG:Hid (Below X wo (wr.setCell ⟨g6,j,none⟩ (ay u))):=jq (AN.out.setCell B4.1 _);have UN:q<=m:=by omega
         have Ux:m<=N:=by omega
         have PZ:Hid (m<j):=jq (by omega);clear hm hu vG;unfold ay at Cc eY cP iG;go_wp2_with fail;go_roundw
         case rel=>exact⟨m,u,UN,Ux,rfl,by simp;omega,iG,cP⟩
         case measure=>have:=PZ.out;simp[intOf] <;> omega
        ·have F8:j=q:=by omega
         subst F8;have K9:decide ((j:Int)<(j:Int))=false:=acJ;have cP:Hid ((wr.setCell ⟨g6,j,none⟩ (.string sn)).ownsRow X 9 1 (.slice (some ⟨g6,0,none⟩) N1 cap6) N1 ((o.take j++sn.data.toList::o.drop j).map ay)):=jq (by
          have h1:=(World.ownsRow.stored nC.out j (ay sn.data.toList)).1;rw[<-List.map_set,NP iS] at h1;exact h1)
         have iG:Hid (Below X wo (wr.setCell ⟨g6,j,none⟩ (.string sn))):=jq (AN.out.setCell B4.1 _);have uv:Hid ((o.take j++sn.data.toList::o.drop j).length=N1):=jq (by rw[NR iS];exact k9.out);unfold ay at Cc;go_wp2_with fail;go_roundw
         case rel=>exact⟨k+1,_,by omega,by go_num,by simp;omega,jq (HB.out.trans iG.out),jq (by unfold bV;rw[uv.out];exact cP.out),jq (by rw[oi.out,xo.out])⟩
         case measure=>simp[intOf] <;> omega
    ·have Gi:q=N:=by omega
     have xo:Hid (Np.dT o sn.data.toList=o.take q++sn.data.toList::o.drop q):=jq (GW o _ q (by rw[HN.out];exact UL) HQ.out (λh=>by rw[HN.out] at h;omega));clear Gi;obtain⟨N1,lZ⟩:=abK (o.length+1);have Fw:=HN.out;have ak:IntKind.i64.wrap ((N1:Int) - 1)=(N:Int):=by rw[show (N1:Int) - 1=N by omega];simp[IntKind.wrap,IntKind.bits,IntKind.signed];omega
     have Tf:N+1=N1:=by omega
     have k9:=jq lZ;clear lZ Fw;have cO:=cr;have lM:Hid (bV X wr _ o):=jq (HO.out.keep cr.out);have FD:X<=wr.heap.size:=by omega
     go_wp2_with (first | (at_builtin;refine wn _ rfl _ _ rfl X _ o rfl (lM.out.alloc _) wr.heap.size sn.data.toList (by simp[go_sem]) (by simp[go_sem]) (by have:=ld.out;omega) (by simp;omega) ?_;intro v6 w6 mf aV;obtain⟨g6,cap6,rfl,zr⟩:=Ny mf k9.out;have EA:=jq zr;have cF:=jq ((((cO.out.mono ym).alloc FD _).trans aV));clear mf aV zr));have ke:X<=w6.heap.size:=by have:=cF.out.size;omega
     obtain⟨wj,GB⟩:=abX w6;clear GB;go_loopw [7] (λjv wi=>∃ (j:Nat) (z:List UInt8),q<=j/\j<=N/\jv = .int .i64 j/\X<=wi.heap.size/\Hid (Below X wo wi)/\Hid (wi.ownsRow X 9 1 (.slice (some ⟨g6,0,none⟩) N1 cap6) N1 ((o.take j++z::o.drop j).map ay))) (λjv _=>(intOf jv).toNat)
     case atStart=>exact⟨N,sn.data.toList,by omega,bQ _,rfl,ke,cF,jq (by rw[kQ (by rw[HN.out];exact bQ _),List.drop_eq_nil_of_le (by rw[HN.out];exact bQ _)];exact EA.out)⟩
     case round=>
      obtain⟨j,z,UM,F7,rfl,kL,AN,nC⟩:=hrel;have iS:j<=o.length:=by rw[HN.out];exact F7
      have B4:X<=g6/\g6<wr.heap.size:=nC.out.lt g6 rfl;have Cc:wr.cell? ⟨g6,j,none⟩=some (ay z):=by rw[nC.out.cellAt j (by omega),List.getElem?_map,NS iS];rfl
      have TW:wr.frozen? ⟨g6,j,none⟩=false:=nC.out.frozenAt j;have Uj:(0:Int)<=(j:Int):=by omega
      have Uk:(j:Int)<(N1:Int):=by omega
      have Ul:j<N1:=by omega
      by_cases LO:q<j
      ·exact absurd LO (by omega)
      ·have F8:j=q:=by omega
       subst F8;have K9:decide ((j:Int)<(j:Int))=false:=acJ;have cP:Hid ((wr.setCell ⟨g6,j,none⟩ (.string sn)).ownsRow X 9 1 (.slice (some ⟨g6,0,none⟩) N1 cap6) N1 ((o.take j++sn.data.toList::o.drop j).map ay)):=jq (by
        have h1:=(World.ownsRow.stored nC.out j (ay sn.data.toList)).1;rw[<-List.map_set,NP iS] at h1;exact h1)
       have iG:Hid (Below X wo (wr.setCell ⟨g6,j,none⟩ (.string sn))):=jq (AN.out.setCell B4.1 _);have uv:Hid ((o.take j++sn.data.toList::o.drop j).length=N1):=jq (by rw[NR iS];exact k9.out);unfold ay at Cc;go_wp2_with fail;go_roundw
       case rel=>exact⟨k+1,_,by omega,by go_num,by simp;omega,jq (HB.out.trans iG.out),jq (by unfold bV;rw[uv.out];exact cP.out),jq (by rw[oi.out,xo.out])⟩
       case measure=>simp[intOf] <;> omega
  ·have HT:Hid (l.take k=l):=jq (kQ (by omega));go_wp2_with fail;go_ret;refine⟨_,rfl,?_,HB.out⟩;have h1:=HE.out;rw[HT.out] at h1;rw[h1];exact HO.out
end
section
open Go.RowKit Go.Sort Go.Shelf
theorem SQ{W w':World}(h:D.Below W.heap.size W w'):∃ q os,w'=grow (W.drewN q) os:=by
 refine⟨w'.drawn - W.drawn,w'.heap.extract W.heap.size w'.heap.size,?_⟩;have hh:w'.heap=W.heap++w'.heap.extract W.heap.size w'.heap.size:=by
  apply Array.ext_getElem?;intro j;rcases Nat.lt_or_ge j W.heap.size with h1 | h1
  ·rw[Array.getElem?_append_left h1];exact h.block j h1
  ·rw[Array.getElem?_append_right h1,Array.getElem?_extract];split
   ·congr 1;omega
   ·rw[Array.getElem?_eq_none (by omega)]
 have hd:w'.drawn=W.drawn+(w'.drawn - W.drawn):=by have:=h.drawn;omega
 have h1:=h.os;have h2:=h.tape;have h3:=h.output
 cases w'
 cases W
 simp only[grow,World.drewN,World.mk.injEq] at *;exact⟨hh,h2,hd,h1,h3⟩
abbrev VN:={ x:List UInt8 // Np.aD x=true }
instance:Inhabited VN:=⟨⟨[46],by decide⟩⟩
def oF(x:VN):Value:=ay x.1
def jT(x y:VN):Int:=Np.aH x.1 y.1
theorem Ze:SWO (ltOf jT) where
 irrefl x:=by unfold ltOf jT;rw[Np.ej.self];rfl
 trans x y z h1 h2:=by
  unfold ltOf jT at *;simp only[Qa] at *;exact Np.ej.trans _ _ _ h1 h2
 ntrans x y z h1 h2:=by
  unfold ltOf jT at *;simp only[decide_eq_false_iff_not] at *;intro h3;rcases Int.lt_trichotomy (Np.aH x.1 y.1) 0 with h4 | h4 | h4
  ·exact h1 h4
  ·have:=Np.ej.zero _ _ h4;rw[this] at h3;exact h2 h3
  ·have:=Np.ej.trans _ _ _ (Np.ej.anti' _ _ h4) h3
   exact h2 this
theorem Zk(x y:VN)(h1:ltOf jT x y=false)(h2:ltOf jT y x=false):x=y:=by
 unfold ltOf jT at *;simp only[decide_eq_false_iff_not] at *;apply Subtype.ext;rcases Int.lt_trichotomy (Np.aH x.1 y.1) 0 with h4 | h4 | h4
 ·exact absurd h4 h1
 ·exact Np.ej.zero _ _ h4
 ·exact absurd (Np.ej.anti' _ _ h4) h2
theorem Oe{x:List UInt8}(h:Np.aD x=true):(⟨x.toArray⟩:ByteArray).size<=140737488355328:=by
 have:=qC h
 have e:(⟨x.toArray⟩:ByteArray).size=x.length:=by rw[<-aX]
 omega
theorem aaJ(x y:VN)(w:World) :
 Calls prog 136 #[oF x,oF y] w λe w'=>e = .returned (.int .i64 (jT x y))/\D.Below w.heap.size w w':=by
 have hc:=D.compare_any ⟨x.1.toArray⟩ ⟨y.1.toArray⟩ (Oe x.2) (Oe y.2) w;have e1:(⟨x.1.toArray⟩:ByteArray).data.toList=x.1:=rfl;have e2:(⟨y.1.toArray⟩:ByteArray).data.toList=y.1:=rfl;have e3:D.cmpVal x.1 y.1 = .tuple #[.int .i64 (jT x y),.int .i64 0]:=by unfold D.cmpVal;rw[x.2,y.2];rfl
 rw[e1,e2,e3] at hc;have HC:=jq hc;clear hc e1 e2 e3;unfold oF ay;generalize jT x y=z at HC |-;go_enter func136,ntmps136;go_wp2_with (go_at_call 137;refine HC.out.mono ?_;rintro e w2 ⟨rfl,ab⟩;have ai:=jq ab;clear ab);go_ret;exact⟨rfl,ai.out⟩
theorem TQ(enc:VN->Value){w:World}{g n:Nat}{os:Array Obj}{cur:Array Value}{e:TypeId}{fr:Nat×Nat}(d:Array VN)(hb:w.heap[g]?=some (.cells cur e fr)) :
 (sortWorld enc w g 0 n d os).heap[g]?=some (.cells (putCells enc 0 d cur) e fr):=by
 have hl:g<w.heap.size:=(eQ.1 hb).1;unfold sortWorld;rw[heap_grow_old _ _ (by simpa [putRow,mapBlock,Sort.ahead] using hl)];simp[putRow,mapBlock,Sort.ahead,Array.getElem?_modify,hb,onCells]
theorem SR(enc:VN->Value){w:World}{g n:Nat}{os:Array Obj}(d:Array VN):w.grownBy (sortWorld enc w g 0 n d os) (some g):=by
 unfold sortWorld;refine⟨rfl,rfl,rfl,by simp,λq hq hne=>?_⟩;rw[heap_grow_old _ _ (by simpa using hq)]
 have:g≠q:=λe=>hne (by rw[e])
 simp[putRow,mapBlock,Sort.ahead,Array.getElem?_modify,this]
theorem YX(base:Nat)(v:Value)(xs:List (List UInt8))(w:World)(hown:bV base w v xs)(hv:∀ x∈xs,Np.aD x=true)(hl:xs.length<=100000) :
 Calls prog 135 #[v,.func (.func 136) #[] #[]] w λe w'=>e = .returned (.tuple #[])/\bV base w' v (Np.rX xs)/\w.grownBy w' v.ownBlock:=by
 obtain⟨ys,Vq⟩:∃ ys:List VN,ys.map (·.1)=xs:=⟨xs.pmap (λx h=>⟨x,h⟩) hv,by rw[List.map_pmap];simp⟩;subst Vq;have hs:Np.rX (ys.map (·.1))=(ys.mergeSort λx y=>!(ltOf jT) y x).map (·.1):=by
  unfold Np.rX;exact (List.map_mergeSort (r:=λx y:VN=>!(ltOf jT) y x) (s:=λa b=>!decide (Np.aH b a<0)) (f:=λx:VN=>x.1) (l:=ys) (λa _ b _=>rfl)).symm
 have jo:w.ownsRow base 9 1 v (ys.map (·.1)).length ((ys.map (·.1)).map ay):=hown;rw[List.length_map] at jo hl;rcases jo.2 with ⟨rfl,h0⟩ | ⟨g,cap,cur,rfl,cW,hb,h1,h2,h3,h4⟩
 ·have:ys = []:=rQ h0
  subst this;refine (Tryz.slices_SortFunc_none (α:=VN) none 0 _ w).mono ?_;intro e w' hh;obtain⟨rfl,rfl⟩:=hh;exact⟨rfl,by rw[hs];simpa using hown,⟨rfl,rfl,rfl,bQ _,λ_ _ _=>rfl⟩⟩
 have eg:∀ args w,(callFunc 136 args).run prog w = .ok (.enter 136 args) w:=enters_of func136 (by kernel_rfl) rfl;have hH:Holds oF w g 0 ys.toArray:=λj hj=>by
  have hj':j<ys.length:=by simpa using hj
  refine⟨?_,by simp[World.frozen?,hb]⟩
  have:=jo.cellAt j (by omega)
  rw[Nat.zero_add,this,List.getElem?_map,List.getElem?_map,aQ hj',getElem!_pos ys.toArray j hj];simp[oF]
 have yD:CmpLays1 prog 136 #[] oF jT g 0 ys.toArray.size w:=λm os dk _ x y=>(aaJ x y _).mono λe w' ⟨he,hw⟩=>⟨he,SQ hw⟩;have Ce:=Tryz.slices_SortFunc_total oF (λ_=>rfl) jT Ze 136 #[] g 0 cap ys.toArray w eg yD hH (eQ.1 hb).1 (by simp;omega) Zk;have hlen:(ys.mergeSort λx y=>!(ltOf jT) y x).length=ys.length:=List.length_mergeSort _;rw[List.size_toArray] at Ce;refine Ce.mono λe w' ⟨he,n,os,hw⟩=>⟨he,?_,?_⟩
 ·subst hw;rw[hs];unfold bV;rw[List.length_map,hlen];refine⟨by simp,.inr ⟨g,cap,_,rfl,cW,TQ oF _ hb,h1,h2,by simp[putCells,h3],?_⟩⟩;apply List.ext_getElem?;intro j;by_cases hj:j<ys.length
  ·have vl:j<cur.size:=by omega
   have Ck:j<(ys.mergeSort λx y=>!(ltOf jT) y x).length:=by omega
   rw[List.getElem?_take_of_lt (by omega),Array.getElem?_toList,List.getElem?_map,List.getElem?_map,aQ Ck];simp[putCells,vl,hj,oF]
  ·rw[List.getElem?_take_eq_none (by omega),List.getElem?_eq_none (by simp;omega)]
 ·subst hw;exact SR oF _
def jg(W:World)(B:Nat)(e:List Value)(h:Np.Hist):Prop:=∃ (hv cv:Value) (s:ByteArray) (dv cX:Value),e = [hv,cv,.string s,.int .i64 h.anchor.type,.int .i64 h.anchor.life,dv,cX,.int .i64 h.drift,.int .i64 h.stop]/\s.data.toList=h.anchor.name/\s.size<=140737488355328/\
 SlR kl 3 W B hv h.hosts/\SlR mG 5 W B cv h.copies/\SlR bW 3 W B dv h.anchor.data/\SlR gL 1 W B cX h.hints
theorem rV:cL jg:=λ_ _ _ _ _ ⟨hv,cv,s,dv,cX,h0,h1,h2,h3,h4,h5,h6⟩ hb=>⟨hv,cv,s,dv,cX,h0,h1,h2,h3.keep nl hb,h4.keep nj hb,h5.keep cu hb,h6.keep kM hb⟩
theorem rW:dD jg:=λ_ _ _ _ _ ⟨hv,cv,s,dv,cX,h0,h1,h2,h3,h4,h5,h6⟩ hb=>⟨hv,cv,s,dv,cX,h0,h1,h2,h3.more vT hb,h4.more zX hb,h5.more cS hb,h6.more t8 hb⟩
def Np.ww(h:Np.Hist):Prop:=h.copies.length<=500/\∀ c∈h.copies,c.zone.sets.length<=20000
theorem Rb{h:Np.Hist}(v:Np.VHist h):∀ x∈Np.cU (h.copies.map (·.zone.apex)),Np.aD x=true:=λx hx=>by
 obtain⟨c,hc,rfl⟩:=List.mem_map.1 (Np.zR.1 hx);have h1:=(v.each c hc).zone.right;unfold Np.ei at h1;simp only[Bool.and_eq_true] at h1;exact h1.1.1
theorem aaK(e:List Value)(h:Np.Hist)(hf:Np.ww h)(w:World)(hR:f9 w w.heap.size)(hh:jg w w.heap.size e h) :
 Calls prog 60 #[.agg e.toArray] w λe w'=>((Np.VHist h/\∃ v',e = .returned (.tuple #[v',.int .i64 0])/\bV w.heap.size w' v' (Np.apexes h.copies))\/(¬ Np.VHist h/\e = .returned (.tuple #[.slice none 0 0,.int .i64 1])))/\Below w.heap.size w w':=by
 obtain⟨hv,cv,s,dv,cX,rfl,h1,h2,h3,h4,h5,h6⟩:=hh;obtain⟨hosts,copies,⟨name,ty,life,data⟩,hints,drift,stop⟩:=h;dsimp only at h1 h3 h4 h5 h6;subst h1;have H3:=jq h3;have H4:=jq h4;have H5:=jq h5;have H6:=jq h6;have ii:=jq hR;have sD:=jq hf;obtain⟨A1,c1,rfl,_,_⟩:=aj h3;obtain⟨A2,c2,rfl,_,_⟩:=aj h4;obtain⟨A3,c3,rfl,_,_⟩:=aj h5;obtain⟨A4,c4,rfl,_,_⟩:=aj h6;clear h3 h4 h5 h6 hR hf;obtain⟨r,hr⟩:=abK (Np.yes (Np.VHist ⟨hosts,copies,⟨s.data.toList,ty,life,data⟩,hints,drift,stop⟩));have sU:=jq hr;obtain⟨n1,bG⟩:=abK hosts.length;obtain⟨n2,ct⟩:=abK copies.length;obtain⟨n3,dL⟩:=abK data.length;obtain⟨n4,ef⟩:=abK hints.length;rw[bG] at H3 |-;rw[ct] at H4 |-;rw[dL] at H5 |-;rw[ef] at H6 |-;clear hr bG ct dL ef;obtain⟨X,hX⟩:=abK w.heap.size;have gK:=jq hX;obtain⟨W1,am⟩:=abK (w.alloc (.cells #[.slice A1 n1 c1,.slice A2 n2 c2,.string s,.int .i64 ty,.int .i64 life,.slice A3 n3 c3,.slice A4 n4 c4,.int .i64 drift,.int .i64 stop] 29));have aI:Below w.heap.size w W1:=by rw[<-am];exact (vQ _ _).alloc (bQ _) _
 have kL:W1.heap.size=w.heap.size+1:=by rw[<-am];simp
 have k0:W1.cell? ⟨X,0,none⟩=some (.slice A1 n1 c1):=by rw[<-am,<-hX];simp[go_sem]
 have k1:W1.cell? ⟨X,1,none⟩=some (.slice A2 n2 c2):=by rw[<-am,<-hX];simp[go_sem]
 have k2:W1.cell? ⟨X,2,none⟩=some (.string s):=by rw[<-am,<-hX];simp[go_sem]
 have k3:W1.cell? ⟨X,3,none⟩=some (.int .i64 ty):=by rw[<-am,<-hX];simp[go_sem]
 have k4:W1.cell? ⟨X,4,none⟩=some (.int .i64 life):=by rw[<-am,<-hX];simp[go_sem]
 have k5:W1.cell? ⟨X,5,none⟩=some (.slice A3 n3 c3):=by rw[<-am,<-hX];simp[go_sem]
 have k6:W1.cell? ⟨X,6,none⟩=some (.slice A4 n4 c4):=by rw[<-am,<-hX];simp[go_sem]
 have k7:W1.cell? ⟨X,7,none⟩=some (.int .i64 drift):=by rw[<-am,<-hX];simp[go_sem]
 have k8:W1.cell? ⟨X,8,none⟩=some (.int .i64 stop):=by rw[<-am,<-hX];simp[go_sem]
 rw[hX] at aI kL H3 H4 H5 H6 ii |-;have aL:=jq aI;clear aI;go_enter func60,ntmps60;go_wp2_with fail;refine (Ln _ hosts _ copies s h2 ty life _ data _ hints drift stop sD.out.1 sD.out.2 _ ((ii.out.keep aL.out).more (by omega)) ((H3.out.keep nl aL.out).more vT (by omega)) ((H4.out.keep nj aL.out).more zX (by omega)) ((H5.out.keep cu aL.out).more cS (by omega)) ((H6.out.keep kM aL.out).more t8 (by omega))).mono ?_;rintro e w2 ⟨rfl,ab⟩;have aO:=ab.size;have m1:w2.cell? ⟨X,1,none⟩=some (.slice A2 n2 c2):=abZ ab k1;have ai:=abJ aL ab;clear ab am k0 k1 k2 k3 k4 k5 k6 k7 k8 hX;rw[sU.out]
 cases r with
 | false=>
  have HN:Hid (¬ Np.VHist ⟨hosts,copies,⟨s.data.toList,ty,life,data⟩,hints,drift,stop⟩):=jq (λh=>by have:=Np.bS h;rw[sU.out] at this;cases this);go_wp2_with fail;go_ret2;exact⟨.inr ⟨HN.out,rfl⟩,ai.out⟩
 | true=>
  have HV:Hid (Np.VHist ⟨hosts,copies,⟨s.data.toList,ty,life,data⟩,hints,drift,stop⟩):=jq (Np.fo.1 sU.out);have qK:Hid (copies.length<=500):=jq sD.out.1;go_wp2_with fail;refine (Om _ copies (by have:=qK.out;omega) _ ((H4.out.keep nj ai.out).more zX (by omega))).mono ?_;rintro e w3 ⟨v3,rfl,lE,ah⟩;have fW:=ah.size;have ig:=jq lE;have aB:=abJ ai ah;clear lE ah;go_wp2_with fail;refine (YX w2.heap.size _ _ _ ig.out (Rb HV.out) (by have:=Np.wl (copies.map (·.zone.apex));rw[List.length_map] at this;have:=qK.out;omega)).mono ?_;rintro e w4 ⟨rfl,me,Lg⟩;have H4':=jq (And.intro (bV.weak me (show X<=w2.heap.size by omega)) (aB.out.grown Lg (by omega) (λq hq=>by have:=(World.ownsRow.lt ig.out q hq).1;omega)));clear me Lg;go_wp2_with fail;go_ret2;exact⟨.inl ⟨HV.out,_,rfl,H4'.out.1⟩,H4'.out.2⟩
end
section
open Go.RowKit
theorem Rk{B:Nat}{M:Nat->Prop}{w:World}(hM:∀ k,M k->B<=k):Below B w (be w M):=
 ⟨rfl,rfl,rfl,by rw[gl];exact bQ _,λk hk=>kf (λh=>by have:=hM k h;omega)⟩
theorem SlR.around{α:Type}{R:afQ α}{sz B:Nat}{w:World}{v:Value}{xs:List α}{M:Nat->Prop}(h:SlR R sz w B v xs)(hk:cL R)(hm:dD R)(hM:∀ k,M k->B<=k)(hB:B<=w.heap.size):SlR R sz (be w M) w.heap.size v xs:=
 (h.keep hk (Rk hM)).more hm hB
theorem bN.keep{α:Type}{R:afQ α}{sz:Nat}{e:TypeId}{base:Nat}{M:Nat->Prop}{w w':World}{v:Value}{xs:List α}(h:bN R sz e base M w v xs)(hk:cL R)(hs:gb R)(hm:dD R)(hb:Below w.heap.size w w'):bN R sz e base M w' v xs:=by
 refine h.leaves hk hs hm (Leaves'.of_below hb) (λg hg=>?_);obtain⟨rows,h1,h2,h3,h4⟩:=h;exact⟨hb.block g (h2.lt g hg).2,h3 g hg⟩
theorem bN.lt{α:Type}{R:afQ α}{sz:Nat}{e:TypeId}{base:Nat}{M:Nat->Prop}{w:World}{v:Value}{xs:List α}(h:bN R sz e base M w v xs):∀ g,v.ownBlock=some g->base<=g/\g<w.heap.size:=by
 obtain⟨rows,h1,h2,h3,h4⟩:=h;exact h2.lt
theorem bN.formN{α:Type}{R:afQ α}{sz:Nat}{e:TypeId}{base:Nat}{M:Nat->Prop}{w:World}{v:Value}{xs:List α}{n:Nat}(h:bN R sz e base M w v xs)(hn:xs.length=n):∃ A c,v = .slice A n c:=by
 subst hn;exact h.form
theorem bN.slr_sans{α:Type}{R:afQ α}{sz:Nat}{e:TypeId}{base:Nat}{M M':Nat->Prop}{w:World}{v:Value}{xs:List α}(hs:gb R)(hm:dD R)(h:bN R sz e base M w v xs)(hM:∀ k,M' k->M k/\v.ownBlock≠some k)(hl:xs.length<=140737488355328):SlR R sz (be w M') w.heap.size v xs:=by
 obtain⟨rows,h1,h2,h3,h4⟩:=h;have h5:bj R sz e base w.heap.size (be w M') v xs:=⟨rows,h1,cM h2 (λg hg=>kf (λhm'=>(hM g hm').2 hg)),λi r x hr hx=>⟨(h4 i r x hr hx).1,hs _ _ _ _ _ _ (λk hk=>(hM k hk).1) (h4 i r x hr hx).2⟩⟩;have h6:=h5.slr hm (by rw[gl];exact bQ _) hl;rwa [gl] at h6
theorem Leaves'.slr{α:Type}{R:afQ α}{sz:Nat}(hk:cL R)(hs:gb R)(hm:dD R){M M':Nat->Prop}{w w':World}(h:Leaves' M w w' M'){v:Value}{xs:List α}(hr:SlR R sz (be w M) w.heap.size v xs):SlR R sz (be w' M') w'.heap.size v xs:=by
 have hb:Below w.heap.size (be w M) (be w' λk=>M k\/M' k):=by
  refine⟨h.os,h.tape,h.output,by rw[gl,gl];exact h.size,λk hk=>?_⟩;by_cases hm:M k
  ·rw[ub hm,ub (Or.inl hm)];have h1:k<w'.heap.size:=lQ hk h.size;simp[hk,h1]
  ·have hk':=h.keep k hk hm;rw[kf hm,kf (λe=>e.elim hm hk'.1)];exact hk'.2
 exact ((hr.keep hk hb).more hm h.size).sans hs (λ_ e=>.inr e)
def Ia{α:Type}(R:afQ α)(B n:Nat)(w:World)(e:List Value)(x:α):Prop:=∀ M:Nat->Prop,(∀ k,M k->B<=k/\k<n)->R (be w M) w.heap.size e x
def fY{α:Type}(R:afQ α)(sz B n:Nat)(w:World)(v:Value)(xs:List α):Prop:=∀ M:Nat->Prop,(∀ k,M k->B<=k/\k<n)->SlR R sz (be w M) w.heap.size v xs
theorem Ia.all{α:Type}{R:afQ α}{B n:Nat}{w:World}{e:List Value}{x:α}(h:Ia R B n w e x)(hs:gb R):R w w.heap.size e x:=hs.all (h (λ_=>False) (λ_ e=>e.elim))
theorem fY.all{α:Type}{R:afQ α}{sz B n:Nat}{w:World}{v:Value}{xs:List α}(h:fY R sz B n w v xs)(hs:gb R):SlR R sz w w.heap.size v xs:=(h (λ_=>False) (λ_ e=>e.elim)).all hs
end
section
open Go.RowKit Go.Shelf

end
section
open Go.RowKit
theorem Dd{α:Type}(R:afQ α)(sz:Nat)(w:World)(B:Nat):SlR R sz w B (.slice none 0 0) []:=⟨none,0,rfl,by simp,by simp,λi x hx=>by simp at hx⟩
theorem Rq(w:World)(l:List Value)(T:TypeId):fZ (w.alloc (.cells l.toArray T)) w.heap.size 0 l:=λj v hj=>by
 have h:=heap_alloc_new w (.cells l.toArray T);unfold World.cell?;rw[h,Nat.zero_add];simpa using hj
theorem fZ.off{w:World}{b o:Nat}{e:List Value}(h:fZ w b o e){M:Nat->Prop}(hM:¬ M b):fZ (be w M) b o e:=λj v hj=>(iQ (a:=⟨b,o+j,none⟩) (kf hM)).trans (h j v hj)
theorem Re{α:Type}{R:afQ α}{sz:Nat}{p:Nat->Prop}{w w':World}{v:Value}{xs:List α}(h:∀ M:Nat->Prop,(∀ k,M k->p k)->SlR R sz (be w M) w.heap.size v xs)(hk:cL R)(hm:dD R)(hb:Below w.heap.size w w'){M:Nat->Prop}(hM:∀ k,M k->p k\/w.heap.size<=k):SlR R sz (be w' M) w'.heap.size v xs:=by
 have h1:=h (λk=>M k/\k<w.heap.size) (λk e=>(hM k e.1).resolve_right (by omega));refine (h1.keep hk ?_).more hm hb.size;refine⟨hb.os,hb.tape,hb.output,by rw[gl,gl];exact hb.size,λk hk=>?_⟩;by_cases hm:M k
 ·have h1:k<w'.heap.size:=lQ hk hb.size;rw[ub hm,ub (M:=λk=>M k/\k<w.heap.size) ⟨hm,hk⟩];simp[hk,h1]
 ·rw[kf hm,kf (M:=λk=>M k/\k<w.heap.size) (λe=>hm e.1)];exact hb.block k hk
theorem fY.later{α:Type}{R:afQ α}{sz n:Nat}{w w':World}{v:Value}{xs:List α}(h:fY R sz 0 n w v xs)(hk:cL R)(hm:dD R)(hb:Below w.heap.size w w'){M:Nat->Prop}(hM:∀ k,M k->k<n\/w.heap.size<=k):SlR R sz (be w' M) w'.heap.size v xs:=
 Re h hk hm hb (λk e=>(hM k e).imp (λe=>⟨jQ _,e⟩) id)
theorem fY.keep{α:Type}{R:afQ α}{sz n:Nat}{w w':World}{v:Value}{xs:List α}(h:fY R sz 0 n w v xs)(hk:cL R)(hm:dD R)(hb:Below w.heap.size w w'):fY R sz 0 n w' v xs:=λ_ hM=>h.later hk hm hb (λk e=>.inl (hM k e).2)
theorem fY.nil{α:Type}(R:afQ α)(sz n:Nat)(w:World):fY R sz 0 n w (.slice none 0 0) []:=λ_ _=>Dd _ _ _ _
theorem fY.form{α:Type}{R:afQ α}{sz n:Nat}{w:World}{v:Value}{xs:List α}(h:fY R sz 0 n w v xs):∃ A c,v = .slice A xs.length c:=by
 obtain⟨A,c,rfl,_⟩:=aj (h (λ_=>False) (λ_ e=>e.elim));exact⟨_,_,rfl⟩
end
end Go.Proofs.YtfnopgdcaanaiaaGreatDoor
