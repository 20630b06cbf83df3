/- No condition. -/
import Derived.Test.YtfnopgdcaanaiaaGreatDoorS06
import Derived.Test.YtfnopgdcaanaiaaGreatDoorS07
import Derived.Test.YtfnopgdcaanaiaaGreatDoorS08
set_option linter.all false
set_option maxRecDepth 100000
set_option maxHeartbeats 8000000
namespace Go.Proofs.YtfnopgdcaanaiaaGreatDoor
open Go.Proofs.Tryz
section
open Go.RowKit Go.MapKept
def jb(W:World)(B:Nat)(e:List Value)(p:Np.Placed):Prop:=∃ (s:ByteArray) (v:Value),s.data.toList=p.zone.apex/\s.size<=140737488355328/\SlR br 5 W B v p.zone.sets/\e = [.int .i64 p.host,.string s,v]
theorem iT:dl jb:=λ_ _ _ _ _ ⟨s,v,h1,h2,h3,h5⟩ hb=>⟨s,v,h1,h2,h3.keep aP hb,h5⟩
theorem jr:dy jb:=λ_ _ _ _ _ ⟨s,v,h1,h2,h3,h5⟩ hb=>⟨s,v,h1,h2,h3.more bK hb,h5⟩
theorem FL{w:World}{B n c:Nat}{A:Option Addr}{xs:List Np.Placed}(h:SlR jb 3 w B (.slice A n c) xs){k:Nat}{x:Np.Placed}(hx:xs[k]?=some x):∃ (b o:Nat) (s:ByteArray) (v:Value),A=some ⟨b,o,none⟩/\b<B/\s.data.toList=x.zone.apex/\s.size<=140737488355328/\SlR br 5 w B v x.zone.sets/\w.cell? ⟨b,o+k * 3,none⟩=some (.int .i64 x.host)/\w.cell? ⟨b,o+k * 3+1,none⟩=some (.string s)/\w.cell? ⟨b,o+k * 3+2,none⟩=some v:=by
 obtain⟨A',c',hA',_,_,bL⟩:=h
 cases hA'
 obtain⟨b,o,e,hA,b7,hlen,hce,s,v,h1,h2,h3,he⟩:=bL k _ hx;subst he;exact⟨b,o,s,v,hA,b7,h1,h2,h3,hce 0 _ rfl,hce 1 _ rfl,hce 2 _ rfl⟩
def kb(r n:Nat)(w:World):Prop:=∃ es c kvs,w.heap[r]?=some (.map es c)/\es.toList.map (λe=>(e.key,e.val))=(kvs:List (List UInt8×Value)).map (λp=>(aI p.1,p.2))/\es.size<=n
theorem kb.lt{r n:Nat}{w:World}(h:kb r n w):r<w.heap.size:=by
 obtain⟨es,c,kvs,h,_⟩:=h;exact (eQ.1 h).1
theorem kb.keep{r k:Nat}{w w':World}{n:Nat}(h:kb r k w)(hb:Below n w w')(hn:r<n):kb r k w':=by
 obtain⟨es,c,kvs,h,h2⟩:=h;exact⟨es,c,kvs,(hb.block r hn).trans h,h2⟩
theorem kb.turned{r k r':Nat}{w w':World}(h:kb r k w)(ht:Turned r' w w')(hne:r≠r'):kb r k w':=by
 obtain⟨es,c,kvs,h,h2⟩:=h;exact⟨es,c,kvs,(ht.block r hne).trans h,h2⟩
theorem kb.made(w:World):kb w.heap.size 0 (w.alloc (.map #[] 0)):=⟨#[],0,[],heap_alloc_new _ _,rfl,bQ _⟩
theorem aaJ(x:List UInt8):∀ (es:List MapEntry) (kvs:List (List UInt8×Value)) (i:Nat),es.map (λe=>(e.key,e.val))=kvs.map (λp=>(aI p.1,p.2))->
 (∃ j e,es[j]?=some e/\e.key=aI x/\Instr.findNow .string (aI x) es i=some (some (i+j,e.val)))\/Instr.findNow .string (aI x) es i=some none:=by
 intro es
 induction es with
 | nil=>
  intro kvs i h;exact .inr rfl
 | cons e es ih=>
  intro kvs i h
  cases kvs with
  | nil=>simp at h
  | cons p kvs=>
   obtain⟨y,u⟩:=p;simp only[List.map_cons,List.cons.injEq,Prod.mk.injEq] at h;obtain⟨⟨h1,h2⟩,h3⟩:=h;have hs:Instr.sameNow .string (aI x) e.key=some (x == y):=by rw[h1];simp only[Instr.sameNow];rw[TZ]
   by_cases cH:x=y
   ·subst cH;have hb:(x == x)=true:=by simp
    rw[hb] at hs;exact .inl ⟨0,e,rfl,h1,by simp only[Instr.findNow,hs];rfl⟩
   ·have hb:(x == y)=false:=by simpa using cH
    rw[hb] at hs;rcases ih kvs (i+1) h3 with ⟨j,e',j1,j2,j3⟩ | h4
    ·exact .inl ⟨j+1,e',by simpa using j1,j2,by simp only[Instr.findNow,hs];rw[j3,show i+1+j=i+(j+1) by omega]⟩
    ·exact .inr (by simp only[Instr.findNow,hs];exact h4)
theorem aKK(a:ByteArray)(P:Program)(w:World):(Instr.keyThatStays (.string a) (.string a)).run P w = .ok (.string a) w:=by
 have h1:(a == a)=true:=by
  show (a.data == a.data)=true;simp
 have:Instr.sameBits 10000 (.string a) (.string a)=true:=by simp[Instr.sameBits,h1]
 simp[Instr.keyThatStays,this]
section
variable {P:Program} {ops:Array Oper} {rest:List Oper} {o:Oper} {a:Act} {Q:Exit->Act->World->Prop}
theorem btK(w:World)(hg:o.guard=none)(m x v:Operand)(t:TypeId)(iP:o.op=Op.mapUpdate t m x v)(kt et:TypeId)(ht:P.underlying t=some (.map kt et))(hk:P.underlying kt=some .string)
 (r n:Nat) (hm:a.eval m = .map (some r)) (hr:kb r n w) (key:List UInt8) (hx:a.eval x=aI key) (val:Value) (hv:a.eval v=val)
 (hK:∀ w',kb r (n+1) w'->Turned r w w'->wpList P ops Q rest (a.put o.dst undef) w'):wpList P ops Q (o::rest) a w:=by
 obtain⟨es,c,kvs,hr,he,hn⟩:=hr;refine wpList_plain hg λK' hK'=>?_;have hc:(Instr.checkKey false 10000 kt (aI key)).run P w = .ok () w:=MapKept.run_checkKey (k:=aI key) hk (by simp[MapKept.IsKey]) false 9999;have hl:r<w.heap.size:=(eQ.1 hr).1;rcases aaJ key es.toList kvs 0 he with ⟨j,e,j1,j2,hf⟩ | hf
 ·have t6:(Instr.keyThatStays (((es[j]?).map (·.key)).getD (aI key)) (aI key)).run P w = .ok (aI key) w:=by
   rw[Array.getElem?_toList] at j1;rw[j1];simp only[Option.map_some,Option.getD_some];rw[j2];exact aKK _ P w
  rw[Nat.zero_add] at hf;have cY:(Instr.mapUpdate t (.map (some r)) (aI key) val).run P w = .ok () { w with heap:=w.heap.setIfInBounds r (.map (es.modify j λe=>{ e with key:=aI key,val:=val }) c) }:=by
   simp[Instr.mapUpdate,run_underlying ht,MapKept.run_getObj_map hr,hc,MapKept.run_findKey hk hf,t6,MapKept.run_setObj_map _ hr,Result.andThen]
  unfold Oper.wp;simp[execOp,iP,hm,hx,hv,cY,Result.andThen];refine hK' _ _ (hK _ ⟨es.modify j λe=>{ e with key:=aI key,val:=val },c,kvs.modify j λ_=>(key,val),by simp[hl],?_,by simp;omega⟩ ⟨rfl,rfl,rfl,by simp,λi hi=>by simp[Ne.symm hi]⟩);apply List.ext_getElem?;intro i;have hi:=Qd (λl=>l[i]?) he;simp only[List.getElem?_map] at hi |-;rw[Array.toList_modify,List.getElem?_modify,List.getElem?_modify];by_cases de:j=i
  ·subst de;simp only[if_true]
   cases h1:es.toList[j]?<;>cases h2:kvs[j]?<;>simp[h1,h2] at hi |-
  ·simp only[Qc de];simpa using hi
 ·have cY:(Instr.mapUpdate t (.map (some r)) (aI key) val).run P w = .ok () { w with heap:=w.heap.setIfInBounds r (.map (es.push { key:=aI key,val:=val,born:=c }) (c+1)) }:=by
   simp[Instr.mapUpdate,run_underlying ht,MapKept.run_getObj_map hr,hc,MapKept.run_findKey hk hf,MapKept.run_setObj_map _ hr,Result.andThen]
  unfold Oper.wp;simp[execOp,iP,hm,hx,hv,cY,Result.andThen];exact hK' _ _ (hK _ ⟨es.push { key:=aI key,val:=val,born:=c },c+1,kvs ++ [(key,val)],by simp[hl],by simp[he],by simp;omega⟩ ⟨rfl,rfl,rfl,by simp,λi hi=>by simp[Ne.symm hi]⟩)
end
theorem Ss{α:Type}[BEq α][LawfulBEq α][DecidableEq α](l:List α)(x:α):((l.map λy=>(y,Value.bool true)).lookup x).getD (.bool false) = .bool (decide (x∈l)):=by
 induction l with
 | nil=>simp
 | cons y l ih=>
  rw[List.map_cons,List.lookup_cons];by_cases h:x=y
  ·subst h;simp
  ·have hb:(x == y)=false:=by simpa using h
   rw[hb];simp only[ih,List.mem_cons,h,false_or]
theorem Sr{α:Type}[BEq α][LawfulBEq α](l:List α)(x:α)(h:x∉l):(l.map λy=>(y,Value.bool true)).lookup x=none:=by
 induction l with
 | nil=>rfl
 | cons y l ih=>
  have hb:(x == y)=false:=by
   rw[beq_eq_false_iff_ne];intro e;exact h (by simp[e])
  rw[List.map_cons,List.lookup_cons,hb];exact ih (λhm=>h (mQ _ hm))
def Np.iS(p:Np.Placed):Int×List UInt8:=(p.host,p.zone.apex)
def Np.D7(n:Nat)(p:Np.Placed):Prop:=(0<=p.host/\p.host<n)/\Np.VZone p.zone
def Np.pt(n:Nat)(l:List Np.Placed):Prop:=(∀ p∈l,Np.D7 n p)/\l.Pairwise λp q=>¬ (p.host=q.host/\p.zone.apex=q.zone.apex)
theorem boZ{n k:Nat}{l:List Np.Placed}{x:Np.Placed}(hx:l[k]?=some x)(h:Np.pt n l):Np.D7 n x/\Np.iS x∉(l.take k).map Np.iS:=by
 refine⟨h.1 x (gQ hx),λhm=>?_⟩;obtain⟨y,hy,he⟩:=List.mem_map.1 hm;have h1:(l.take k ++ [x]).Pairwise λp q=>¬ (p.host=q.host/\p.zone.apex=q.zone.apex):=by
  obtain⟨hl,he⟩:=cQ.1 hx
  have:l.take k ++ [x]=l.take (k+1):=by rw[fQ hl,he]
  rw[this];exact h.2.sublist (List.take_sublist _ _)
 have h2:=(List.pairwise_append.1 h1).2.2 y hy x (by simp);unfold Np.iS at he;simp only[Prod.mk.injEq] at he;exact h2 he
theorem boJ{n k:Nat}{l:List Np.Placed}{x:Np.Placed}(hx:l[k]?=some x)(h:Np.pt n (l.take k))(h1:Np.D7 n x)(h2:Np.iS x∉(l.take k).map Np.iS):Np.pt n (l.take (k+1)):=by
 obtain⟨hl,he⟩:=cQ.1 hx;have ht:l.take (k+1)=l.take k ++ [x]:=by rw[fQ hl,he]
 rw[ht];refine⟨λp hp=>?_,List.pairwise_append.2 ⟨h.2,by simp,λy hy z hz xl=>?_⟩⟩
 ·rcases List.mem_append.1 hp with hp | hp
  ·exact h.1 p hp
  ·rw[List.mem_singleton] at hp;subst hp;exact h1
 ·rw[List.mem_singleton] at hz;subst hz;exact h2 (List.mem_map.2 ⟨y,hy,by unfold Np.iS;simp[xl.1,xl.2]⟩)
theorem bnZ(hv:Value)(n:Nat)(hn:∃ A c,hv = .slice A n c)(zv:Value)(l:List Np.Placed)(sv:Value)(ty life:Int)(dv cU:Value)(s:ByteArray)(aN:sv = .string s)(hl:l.length<=500)(hz:∀ p∈l,p.zone.sets.length<=20000)(w:World)(hR:gq w w.heap.size)(hd:SlR jb 3 w w.heap.size zv l) :
 Calls prog 181 #[.agg #[hv,zv,sv,.int .i64 ty,.int .i64 life,dv,cU]] w λe w'=>e = .returned (.bool (Np.yes (Np.pt n l)))/\Below w.heap.size w w':=by
 obtain⟨r,hr⟩:=afZ (Np.yes (Np.pt n l));rw[hr];have HR:=jq hr;have HD:=jq hd;have ef:=jq hR;have HZ:=jq hz;obtain⟨Ah,ch,rfl⟩:=hn;obtain⟨A,c,rfl,bw,bT⟩:=ak hd;subst aN;clear hr hd hR hz;have bKJ:∀ (w:World),(Instr.makeMap 299 none).run prog w = .ok (.map (some w.heap.size)) (w.alloc (.map #[] 0)):=λw=>by
  simp[Instr.makeMap,Result.andThen]
 have bKK:∀ (w:World),(Instr.makeMap 111 none).run prog w = .ok (.map (some w.heap.size)) (w.alloc (.map #[] 0)):=λw=>by
  simp[Instr.makeMap,Result.andThen]
 have fF:decide (4000<(l.length:Int))=false:=afY;go_enter func181,ntmps181;go_wp2_with fail;obtain⟨w1,am⟩:=afZ (((w.alloc (.cells #[.slice Ah n ch,.slice A l.length c,.string s,.int .i64 ty,.int .i64 life,dv,cU] 68)).alloc (.map #[] 0)).alloc (.map #[] 0));obtain⟨X,hX⟩:=afZ w.heap.size;obtain⟨X1,pE⟩:=afZ (X+1);obtain⟨X2,EJ⟩:=afZ (X1+1);have uZ:Hid (jD X1 [] w1):=jq (by
  rw[<-am,<-pE,<-hX];have h0:=jD.made (w.alloc (.cells #[.slice Ah n ch,.slice A l.length c,.string s,.int .i64 ty,.int .i64 life,dv,cU] 68));rw[show w.heap.size+1=(w.alloc (.cells #[.slice Ah n ch,.slice A l.length c,.string s,.int .i64 ty,.int .i64 life,dv,cU] 68)).heap.size by simp];exact h0.keep (blAl) (by simp))
 have Wo:Hid (kb X2 0 w1):=jq (by
  rw[<-am,<-EJ,<-pE,<-hX];have h0:=kb.made ((w.alloc (.cells #[.slice Ah n ch,.slice A l.length c,.string s,.int .i64 ty,.int .i64 life,dv,cU] 68)).alloc (.map #[] 0));simpa using h0)
 have aF:Hid (Below X w w1):=jq (by rw[<-am,<-hX];exact ((blAl).alloc (by simp) _).alloc (by simp;omega) _);have qr:Hid (w1.cell? ⟨X,0,none⟩=some (.slice Ah n ch)):=jq (by rw[<-am,<-hX];simp[go_sem]);have bF:X2<w1.heap.size:=by rw[<-am,<-EJ,<-pE,<-hX];simp
 rw[am,hX,pE,EJ];have QA:X<X1:=by omega
 have bIJ:X1<X2:=by omega
 rw[hX] at HD ef;have lO:=jq hX;clear am pE EJ;go_loopw [17] (λi wr=>∃ k:Nat,k<=l.length/\i = .int .i64 k/\Hid (Below X w wr)/\X2<wr.heap.size/\Hid (wr.cell? ⟨X,0,none⟩=some (.slice Ah n ch))/\Hid (jD X1 (((l.take k).map Np.iS).map λy=>(y,Value.bool true)) wr)/\Hid (kb X2 k wr)/\Hid (Np.pt n (l.take k))) (λi _=>l.length - (intOf i).toNat)
 case atStart=>exact⟨0,jQ _,rfl,aF,bF,qr,uZ,Wo,jq ⟨λp hp=>by simp at hp,by simp⟩⟩
 case round=>
  obtain⟨k,hk,rfl,HB,du,HC,HM,HN,HV⟩:=hrel;have vS:=HC.out;by_cases ab:k<l.length
  ·obtain⟨x,ae⟩:∃ x,l[k]?=some x:=⟨_,aQ ab⟩;obtain⟨b,o,sn,vz,rfl,bZ,aD,cu,dg,f0,f1,f2⟩:=FL (HD.out.keep iT HB.out) ae;have mp:=jq (boZ (n:=n) (k:=k) ae);have cV:=jq (λh1 h2=>boJ ae HV.out h1 h2);have HF:Hid (¬ Np.D7 n x->r=false):=jq (λh=>by rw[<-HR.out];exact Np.aR λq=>h (mp.out q).1);have rp:Hid (Np.iS x∈(l.take k).map Np.iS->r=false):=jq (λh=>by rw[<-HR.out];exact Np.aR λq=>(mp.out q).2 h);have HT:Hid ((l.take (k+1)).map Np.iS=(l.take k).map Np.iS ++ [Np.iS x]):=jq (by
    obtain⟨hl,he⟩:=cQ.1 ae;rw[fQ hl,he,List.map_append];rfl)
   have A9:Hid (x.zone.sets.length<=20000):=jq (HZ.out x (gQ ae));have pb:Hid (Np.iS x=(x.host,sn.data.toList)):=jq (by unfold Np.iS;rw[aD]);obtain⟨Az,cz,rfl,_,_⟩:=ak dg;obtain⟨nz,jh⟩:=afZ x.zone.sets.length;have aZ:=jq aD;rw[jh] at f2;have gD:Hid (SlR br 5 wr wr.heap.size (.slice Az nz cz) x.zone.sets):=jq (by rw[<-jh];exact dg.more bK (by have:=HB.out.size;omega));obtain⟨w2,aj⟩:=afZ (wr.alloc (.cells #[.int .i64 x.host,.string sn,.slice Az nz cz] 72));obtain⟨w3,eF⟩:=afZ (w2.alloc (.cells #[.int .i64 x.host,.string sn] 301));have aO:w2.heap.size=wr.heap.size+1:=by rw[<-aj];simp
   have dR:w3.heap.size=w2.heap.size+1:=by rw[<-eF];simp
   have aa:Below wr.heap.size wr w2:=by rw[<-aj];exact blAl
   have ai:Below wr.heap.size wr w3:=by rw[<-eF];exact aa.alloc (by omega) _
   have p0:w2.cell? ⟨wr.heap.size,0,none⟩=some (.int .i64 x.host):=by rw[<-aj];simp[go_sem]
   have p1:w2.cell? ⟨wr.heap.size,1,none⟩=some (.string sn):=by rw[<-aj];simp[go_sem]
   have q0:w3.cell? ⟨wr.heap.size,0,none⟩=some (.int .i64 x.host):=by rw[<-eF,<-p0];simp[go_sem,aO]
   have q1:w3.cell? ⟨wr.heap.size,1,none⟩=some (.string sn):=by rw[<-eF,<-p1];simp[go_sem,aO]
   have q2:w3.cell? ⟨wr.heap.size,2,none⟩=some (.slice Az nz cz):=by rw[<-eF,<-aj];simp[go_sem]
   have r0:w3.cell? ⟨wr.heap.size+1,0,none⟩=some (.int .i64 x.host):=by rw[<-eF,<-aO];simp[go_sem]
   have r1:w3.cell? ⟨wr.heap.size+1,1,none⟩=some (.string sn):=by rw[<-eF,<-aO];simp[go_sem]
   have P4:w3.cell? ⟨X,0,none⟩=some (.slice Ah n ch):=aeK ai vS;have aw:=aeX HB ai;have qz:Hid (jD X1 (((l.take k).map Np.iS).map λy=>(y,Value.bool true)) w3):=jq (HM.out.keep ai (by omega));have tq:Hid (kb X2 k w3):=jq (HN.out.keep ai du);have rE:Hid (SlR br 5 w3 w3.heap.size (.slice Az nz cz) x.zone.sets):=jq ((gD.out.keep aP ai).more bK ai.size);have pq:Hid (X2<w3.heap.size):=jq (by omega);have gh:(Instr.lookup 299 (.map (some X1)) (.agg #[.int .i64 x.host,.string sn]) false).run prog w3 = .ok (.bool (decide ((x.host,sn.data.toList)∈(l.take k).map Np.iS))) w3:=by
    have:=a9X w3 299 4 underlying299 X1 _ qz.out (x.host,sn.data.toList) (.bool false) (by kernel_rfl)
    rw[Ss] at this;exact this
   rw[<-pb.out] at gh;clear ae aD dg aa ai jh HM HN gD;by_cases g1:x.host<0
   ·have d1:decide (x.host<0)=true:=uQ g1;have HX:Hid (r=false):=jq (HF.out λh=>by have:=h.1;omega);clear g1;go_wp2_with fail;go_ret;exact⟨ag HX.out.symm,by rw[lO.out];exact aw.out⟩
   ·have d1:decide (x.host<0)=false:=tQ g1;by_cases g2:(n:Int)<=x.host
    ·have d2:decide ((n:Int)<=x.host)=true:=uQ g2;have HX:Hid (r=false):=jq (HF.out λh=>by have:=h.1;omega);clear g1 g2;go_wp2_with fail;go_ret;exact⟨ag HX.out.symm,by rw[lO.out];exact aw.out⟩
    ·have d2:decide ((n:Int)<=x.host)=false:=tQ g2;have HG:Hid (0<=x.host/\x.host<n):=jq (by omega);clear g1 g2;by_cases g3:Np.iS x∈(l.take k).map Np.iS
     ·rw[uQ g3] at gh;have HX:Hid (r=false):=jq (rp.out g3);clear g3;go_wp2_with fail;go_ret;exact⟨ag HX.out.symm,by rw[lO.out];exact aw.out⟩
     ·rw[tQ g3] at gh;have kS:=jq g3;clear g3;go_wp2_with fail;refine (L0 sn cu _ x.zone.sets A9.out w3 ((ef.out.keep aw.out).more (by have:=aw.out.size;omega)) rE.out).mono ?_;rintro e w4 ⟨rfl,ar⟩;have fz:w3.heap.size<=w4.heap.size:=ar.size;have s0:w4.cell? ⟨wr.heap.size,0,none⟩=some (.int .i64 x.host):=aeK ar q0;have s1:w4.cell? ⟨wr.heap.size,1,none⟩=some (.string sn):=aeK ar q1;have s2:w4.cell? ⟨wr.heap.size,2,none⟩=some (.slice Az nz cz):=aeK ar q2;have t0:w4.cell? ⟨wr.heap.size+1,0,none⟩=some (.int .i64 x.host):=aeK ar r0;have t1:w4.cell? ⟨wr.heap.size+1,1,none⟩=some (.string sn):=aeK ar r1;have bi:=aeX aw ar;have Hv:Hid (jD X1 (((l.take k).map Np.iS).map λy=>(y,Value.bool true)) w4):=jq (qz.out.keep ar (by omega));have vf:Hid (kb X2 k w4):=jq (tq.out.keep ar pq.out);have EO:w4.cell? ⟨X,0,none⟩=some (.slice Ah n ch):=aeK ar P4;have uN:=jq EO;clear ar p0 p1 q0 q1 q2 r0 r1 aj eF f0 f1 f2 gh P4 qz tq;obtain⟨rz,fu⟩:=afZ (Np.yes (Np.VZone ⟨sn.data.toList,x.zone.sets⟩));rw[fu];have gR:=jq fu;clear fu
      cases rz with
      | false=>
       have HX:Hid (r=false):=jq (HF.out λh=>by
        have h1:=h.2;have h2:x.zone=⟨sn.data.toList,x.zone.sets⟩:=by rw[aZ.out]
        rw[h2] at h1;have h3:=Np.bV h1;rw[gR.out] at h3
        cases h3)
       go_wp2_with fail;go_ret;exact⟨ag HX.out.symm,by rw[lO.out];exact bi.out⟩
      | true=>
       have oa:Hid (Np.pt n (l.take (k+1))):=jq (cV.out ⟨HG.out,by
        have h2:x.zone=⟨sn.data.toList,x.zone.sets⟩:=by rw[aZ.out]
        rw[h2];exact Np.eZ.1 gR.out⟩ kS.out)
       have Wu:Hid ((((l.take k).map Np.iS).map λy=>(y,Value.bool true)).lookup (x.host,sn.data.toList)=none):=jq (by rw[<-pb.out];exact Sr _ _ kS.out);go_wp2_with (at_mapUpdate;first
        | (refine btX _ rfl _ _ _ 299 rfl 4 underlying299 X1 _ rfl Hv.out (x.host,sn.data.toList) rfl (.bool true) rfl Wu.out ?_;intro w5 lq mc;have s1':w5.cell? ⟨wr.heap.size,1,none⟩=some (.string sn):=(mc.cell (by dsimp only;omega)).trans s1;have H5:=jq (And.intro lq mc);have Wp:=jq (vf.out.turned mc (by omega));clear lq mc s0 s1 s2 t0 t1 EO)
        | (refine btK _ rfl _ _ _ 111 rfl 9 4 underlying111 underlying9 X2 k rfl Wp.out sn.data.toList rfl (.bool true) rfl ?_;intro w6 Ci Ru;have H6:=jq (And.intro Ci Ru);clear Ci Ru))
       go_roundw
       case rel=>
        refine⟨k+1,by omega,by go_num,jq (((bi.out.trans (H5.out.2.below (by omega))).trans (H6.out.2.below (by omega)))),by rw[H6.out.2.size,H5.out.2.size];have:=pq.out;omega,jq ((H6.out.2.cell (by dsimp only;omega)).trans ((H5.out.2.cell (by dsimp only;omega)).trans uN.out)),jq ?_,jq H6.out.1,oa⟩;have h1:=H5.out.1.keep' (w':=w6) (H6.out.2.block _ (by omega));rw[HT.out,List.map_append,pb.out];exact h1
       case measure=>simp[intOf]<;>omega
  ·have XD:Hid (Np.pt n l):=jq (by have:=HV.out;rwa [kQ (by omega)] at this);obtain⟨es,ce,kvs,hes,_,ay⟩:=HN.out;have hd5:decide ((es.size:Int)<=500)=true:=agQ;have E3:(Builtin.len_ #[111] 3 #[.map (some X2)]).run prog wr = .ok (.int .i64 (es.size:Int)) wr:=by
    simp[Builtin.len_,run_underlying underlying111,MapKept.run_getObj_map hes,Result.andThen,goInt]
   obtain⟨m5,lq⟩:=afZ es.size;rw[lq] at E3 hd5;clear hes lq;go_wp2_with fail;go_ret;exact⟨ag (by rw[<-HR.out];exact (Np.bV XD.out).symm),by rw[lO.out];exact HB.out⟩
def lR(W:World)(B:Nat)(e:List Value)(c:Np.Copy):Prop:=∃ (s:ByteArray) (v:Value),s.data.toList=c.zone.apex/\s.size<=140737488355328/\SlR br 5 W B v c.zone.sets/\e = [.int .i64 c.host,.int .i64 c.frm,.int .i64 c.til,.string s,v]
theorem mg:dl lR:=λ_ _ _ _ _ ⟨s,v,h1,h2,h3,h5⟩ hb=>⟨s,v,h1,h2,h3.keep aP hb,h5⟩
theorem zF:dy lR:=λ_ _ _ _ _ ⟨s,v,h1,h2,h3,h5⟩ hb=>⟨s,v,h1,h2,h3.more bK hb,h5⟩
theorem vJ{w:World}{B n c:Nat}{A:Option Addr}{xs:List Np.Copy}(h:SlR lR 5 w B (.slice A n c) xs){k:Nat}{x:Np.Copy}(hx:xs[k]?=some x):∃ (b o:Nat) (s:ByteArray) (v:Value),A=some ⟨b,o,none⟩/\b<B/\s.data.toList=x.zone.apex/\s.size<=140737488355328/\SlR br 5 w B v x.zone.sets/\w.cell? ⟨b,o+k * 5,none⟩=some (.int .i64 x.host)/\w.cell? ⟨b,o+k * 5+1,none⟩=some (.int .i64 x.frm)/\w.cell? ⟨b,o+k * 5+2,none⟩=some (.int .i64 x.til)/\w.cell? ⟨b,o+k * 5+3,none⟩=some (.string s)/\w.cell? ⟨b,o+k * 5+4,none⟩=some v:=by
 obtain⟨A',c',hA',_,_,bL⟩:=h
 cases hA'
 obtain⟨b,o,e,hA,b7,hlen,hce,s,v,h1,h2,h3,he⟩:=bL k _ hx;subst he;exact⟨b,o,s,v,hA,b7,h1,h2,h3,hce 0 _ rfl,hce 1 _ rfl,hce 2 _ rfl,hce 3 _ rfl,hce 4 _ rfl⟩
theorem Yk(h f u:Int)(s:ByteArray)(v:Value)(w:World) :
 Calls prog 125 #[.agg #[.int .i64 h,.int .i64 f,.int .i64 u,.string s,v]] w (ahZ w.heap.size w (.string s)):=by
 have HB:=blW w;go_enter func125,ntmps125;go_wp2_with fail;go_ret;exact⟨rfl,HB.out _⟩
theorem cD.turned{base r:Nat}{w w':World}{v:Value}{ps:List (List UInt8)}(h:cD base w v ps)(ht:Turned r w w')(hr:r<base):cD base w' v ps:=dS h (λg hg=>ht.block g (by have:=(h.lt g hg).1;omega))
theorem cD.weak{base base':Nat}{w:World}{v:Value}{ps:List (List UInt8)}(h:cD base w v ps)(hb:base'<=base):cD base' w v ps:=by
 refine⟨h.1,?_⟩;rcases h.2 with h2 | ⟨g,cap,cur,h1,h2,h3⟩
 ·exact .inl h2
 ·exact .inr ⟨g,cap,cur,h1,yQ hb h2,h3⟩
def Da(ks:List (List UInt8)):List (List UInt8×Value):=ks.map λy=>(y,Value.bool true)
theorem T4(v:Value)(l:List Np.Copy)(bY:l.length<=20000)(w:World)(h:SlR lR 5 w w.heap.size v l) :
 Calls prog 124 #[v,.func (.func 125) #[] #[]] w λe w'=>∃ v',e = .returned v'/\cD w.heap.size w' v' (Np.dH (l.map (·.zone.apex)))/\Below w.heap.size w w':=by
 have HD:=jq h;obtain⟨A,c,rfl,bw,bT⟩:=ak h;clear h;have sr:∀ (w:World),(Instr.makeMap 111 none).run prog w = .ok (.map (some w.heap.size)) (w.alloc (.map #[] 0)):=λw=>by
  simp[Instr.makeMap,Result.andThen]
 have jz:Hid (∀ k,(Np.dH ((l.take k).map (·.zone.apex))).length<=20000):=jq (λk=>by
  have h1:=Np.Db ((l.take k).map (·.zone.apex));rw[List.length_map,List.length_take] at h1;omega)
 go_enter func124,ntmps124;go_wp2_with fail;have uZ:=jq (dJ.made w);have aF:Hid (Below w.heap.size w (w.alloc (.map #[] 0))):=jq ((vQ _ w).alloc (bQ _) _);have bF:w.heap.size<(w.alloc (.map #[] 0)).heap.size:=by simp
 generalize w.alloc (.map #[] 0)=w1 at *;go_loopw [6,13] (λvo i wr=>∃ k:Nat,k<=l.length/\i = .int .i64 k/\Hid (Below w.heap.size w wr)/\w.heap.size<wr.heap.size/\Hid (dJ w.heap.size (Da (Np.dH ((l.take k).map (·.zone.apex)))) wr)/\Hid (cD (w.heap.size+1) wr vo (Np.dH ((l.take k).map (·.zone.apex))))) (λ_ i _=>l.length - (intOf i).toNat)
 case atStart=>exact⟨0,jQ _,rfl,aF,bF,uZ,jq ⟨by simp[Np.dH],.inl ⟨rfl,rfl⟩⟩⟩
 case round=>
  obtain⟨k,hk,rfl,HB,du,HM,HO⟩:=hrel;by_cases ab:k<l.length
  ·obtain⟨x,ae⟩:∃ x,l[k]?=some x:=⟨_,aQ ab⟩;obtain⟨b,o,sn,vz,rfl,bZ,aD,cu,dg,f0,f1,f2,f3,f4⟩:=vJ (HD.out.keep mg HB.out) ae;obtain⟨Az,cz,rfl,_,_⟩:=ak dg;obtain⟨nz,jh⟩:=afZ x.zone.sets.length;rw[jh] at f4;obtain⟨ks,t6⟩:=afZ (Np.dH ((l.take k).map (·.zone.apex)));have HT:Hid (Np.dH ((l.take (k+1)).map (·.zone.apex))=Np.k9 ks sn.data.toList):=jq (by
    obtain⟨hl,he⟩:=cQ.1 ae;rw[fQ hl,he,List.map_append,<-t6,aD];exact Np.LH _ _)
   have pd:Hid (ks.length<=20000):=jq (by rw[<-t6];exact jz.out k);rw[t6] at HM HO;obtain⟨w2,aj⟩:=afZ (wr.alloc (.cells #[.int .i64 x.host,.int .i64 x.frm,.int .i64 x.til,.string sn,.slice Az nz cz] 46));have aa:Below wr.heap.size wr w2:=by rw[<-aj];exact blAl
   have aO:wr.heap.size<w2.heap.size:=by rw[<-aj];simp
   obtain⟨p0,p1,p2,p3,p4⟩:=cRow5 w2 (wr.heap.size) (.int .i64 x.host) (.int .i64 x.frm) (.int .i64 x.til) (.string sn) (.slice Az nz cz) (by rw[<-aj];simp[go_sem]);have ah:=jq aa;have ay:=HB.out.size;clear ae aD dg jh t6 aa;go_wp2_with fail;refine (Yk _ _ _ _ _ _).mono ?_;rintro e w3 ⟨rfl,ai⟩;have aw:=aeX ah ai;have dR:wr.heap.size<w3.heap.size:=by have:=ai.size;omega
   have qz:Hid (dJ w.heap.size (Da ks) w3):=jq (HM.out.keep aw.out du);have lL:Hid (cD (w.heap.size+1) w3 _ ks):=jq (HO.out.keep aw.out);clear ai aj p0 p1 p2 p3 p4 f0 f1 f2 f3 f4;have l7:=Li (P:=prog) w3 111 9 4 underlying111 underlying9 w.heap.size _ qz.out sn.data.toList (.bool false) (by kernel_rfl);unfold Da at l7;rw[Ss] at l7;by_cases hin:sn.data.toList∈ks
   ·have mV:Hid (Np.dH ((l.take (k+1)).map (·.zone.apex))=ks):=jq (by rw[HT.out,Np.Oo hin]);rw[uQ hin] at l7;clear hin;go_wp2_with fail;go_roundw
    case rel=>exact⟨k+1,by omega,by go_num,aeX HB aw.out,by omega,jq (by rw[mV.out];exact qz.out),jq (by rw[mV.out];exact lL.out)⟩
    ·simp[intOf]<;>omega
   ·have mV:Hid (Np.dH ((l.take (k+1)).map (·.zone.apex))=ks ++ [sn.data.toList]):=jq (by rw[HT.out,Np.k9,Qc hin]);have kS:Hid ((Da ks).lookup sn.data.toList=none):=jq (Sr _ _ hin);rw[tQ hin] at l7;clear hin;go_wp2_with (first
     | (at_mapUpdate;refine Uk _ rfl _ _ _ 111 rfl 9 4 underlying111 underlying9 w.heap.size _ rfl qz.out sn.data.toList rfl (.bool true) rfl kS.out ?_;intro w5 lq mc;have H5:=jq (And.intro lq mc);have rA:Hid (cD (w.heap.size+1) w5 _ ks):=jq (cD.turned lL.out mc (by omega));have lB:wr.heap.size<w5.heap.size:=(by rw[mc.size];exact dR);clear lq mc)
     | (at_builtin;refine zS _ rfl _ _ rfl (w.heap.size+1) _ ks rfl (rA.out.alloc _) w5.heap.size sn.data.toList (by simp[go_sem]) (by simp[go_sem]) (by have:=pd.out;omega) (by simp;omega) ?_;intro v6 w6 qU aT;have H6:=jq (And.intro qU aT);clear qU aT))
    go_roundw
    case rel=>exact⟨k+1,by omega,by go_num,jq ((((HB.out.trans (aw.out.afK)).trans (H5.out.2.below (bQ _))).alloc (by omega) _).trans (H6.out.2.afK)),by have:=H6.out.2.size;simp at this;omega,jq (by rw[mV.out];unfold Da;rw[List.map_append];exact (H5.out.1.keep (blAl) (by omega)).keep H6.out.2 (by omega)),jq (by rw[mV.out];exact H6.out.1)⟩
    ·simp[intOf]<;>omega
  ·have HE':Hid (l.take k=l):=jq (kQ (by omega));go_wp2_with fail;go_ret;exact⟨_,rfl,by have:=HO.out.weak (Nat.le_succ _);rw[HE'.out] at this;exact this,HB.out⟩
theorem bpQ{w:Np.WorldP} : Np.VWorld w↔(Np.VHosts w.hosts/\Np.pt w.hosts.length w.zones)/\Np.VRoot w.anchor w.hints:=
 ⟨λh=>⟨⟨h.hosts,h.each,h.apart⟩,h.root⟩,λh=>⟨h.1.1,h.2,h.1.2.1,h.1.2.2⟩⟩
theorem Uh(hv:Value)(hs:List Np.Host)(zv:Value)(l:List Np.Placed)(s:ByteArray)(ay:s.size<=140737488355328)(ty life:Int)(dv:Value)(d:List Np.Datum)(cU:Value)(hints:List Int)(hl:l.length<=500)(hz:∀ p∈l,p.zone.sets.length<=20000)(w:World)(hR:gq w w.heap.size)
 (hh:SlR gp 3 w w.heap.size hv hs) (hd:SlR jb 3 w w.heap.size zv l) (hdd:SlR ci 3 w w.heap.size dv d) (pK:SlR ei 1 w w.heap.size cU hints) :
 Calls prog 110 #[.agg #[hv,zv,.string s,.int .i64 ty,.int .i64 life,dv,cU]] w (ahZ w.heap.size w (.bool (Np.yes (Np.VWorld ⟨hs,l,⟨s.data.toList,ty,life,d⟩,hints⟩)))):=by
 obtain⟨r,hr⟩:=afZ (Np.yes (Np.VWorld ⟨hs,l,⟨s.data.toList,ty,life,d⟩,hints⟩));rw[hr];have HR:Hid (Np.yes ((Np.VHosts hs/\Np.pt hs.length l)/\Np.VRoot ⟨s.data.toList,ty,life,d⟩ hints)=r):=jq (by rw[<-hr];exact (Np.uE (bpQ (w:=⟨hs,l,⟨s.data.toList,ty,life,d⟩,hints⟩))).symm);have HH:=jq hh;have HD:=jq hd;have qu:=jq hdd;have qw:=jq pK;have ef:=jq hR;obtain⟨A1,c1,rfl,_,_⟩:=ak hh;obtain⟨A2,c2,rfl,_,_⟩:=ak hd;obtain⟨A3,c3,rfl,_,_⟩:=ak hdd;obtain⟨A4,c4,rfl,_,_⟩:=ak pK;clear hr hd hR hh hdd pK;obtain⟨W1,aB⟩:=afZ (w.alloc (.cells #[.slice A1 hs.length c1,.slice A2 l.length c2,.string s,.int .i64 ty,.int .i64 life,.slice A3 d.length c3,.slice A4 hints.length c4] 68));have aM:Below w.heap.size w W1:=by rw[<-aB];exact blAl
 have jS:W1.heap.size=w.heap.size+1:=by rw[<-aB];simp
 obtain⟨n1,bE⟩:=afZ hs.length;obtain⟨n2,bS⟩:=afZ l.length;obtain⟨n3,cR⟩:=afZ d.length;obtain⟨n4,cX⟩:=afZ hints.length;rw[bE,bS,cR,cX] at aB;rw[bE] at HH HR;rw[bS] at HD;rw[cR] at qu;rw[cX] at qw;rw[bE,bS,cR,cX];obtain⟨k0,k1,k2,k3,k4,k5,k6⟩:=cRow7 W1 (w.heap.size) (.slice A1 n1 c1) (.slice A2 n2 c2) (.string s) (.int .i64 ty) (.int .i64 life) (.slice A3 n3 c3) (.slice A4 n4 c4) (by rw[<-aB];simp[go_sem]);have aS:=jq aM;have HN:=jq (And.intro bE (And.intro bS (And.intro cR cX)));clear aM bE bS cR cX;go_enter func110,ntmps110;go_wp2_with fail;refine (bnK _ hs _ (HH.out.later gy mN aS.out)).mono ?_;rintro e w2 ⟨rfl,aa⟩;replace k0:=aeK aa k0;replace k1:=aeK aa k1;replace k2:=aeK aa k2;replace k3:=aeK aa k3;replace k4:=aeK aa k4;replace k5:=aeK aa k5;replace k6:=aeK aa k6;have aO:=aa.size;have ah:=aeX aS aa;clear aa aB;obtain⟨b1,av⟩:=afZ (Np.yes (Np.VHosts hs));rw[av];have tu:=jq av;clear av
 cases b1 with
 | false=>
  have HX:Hid (r=false):=jq (by rw[<-HR.out];exact Np.aR λq=>by have:=Np.bV q.1.1;rw[tu.out] at this;cases this);go_wp2_with fail;go_ret;exact⟨ag HX.out.symm,ah.out⟩
 | true=>
  go_wp2_with fail;refine (bnZ _ n1 ⟨_,_,rfl⟩ _ l _ ty life _ _ s rfl hl hz _ ((ef.out.keep ah.out).more ah.out.size) (HD.out.later iT jr ah.out)).mono ?_;rintro e w3 ⟨rfl,ai⟩;replace k0:=aeK ai k0;replace k1:=aeK ai k1;replace k2:=aeK ai k2;replace k3:=aeK ai k3;replace k4:=aeK ai k4;replace k5:=aeK ai k5;replace k6:=aeK ai k6;have dR:=ai.size;have aw:=aeX ah ai;clear ai;obtain⟨b2,aa⟩:=afZ (Np.yes (Np.pt n1 l));rw[aa];have AY:=jq aa;clear aa
  cases b2 with
  | false=>
   have HX:Hid (r=false):=jq (by rw[<-HR.out];exact Np.aR λq=>by have:=Np.bV q.1.2;rw[AY.out] at this;cases this);go_wp2_with fail;go_ret;exact⟨ag HX.out.symm,aw.out⟩
  | true=>
   go_wp2_with fail;refine (bnY s ay ty life _ d _ hints _ ((ef.out.keep aw.out).more aw.out.size) (qu.out.later cJ di aw.out) (qw.out.later kE qa aw.out)).mono ?_;rintro e w4 ⟨rfl,ar⟩;have bi:=jq (aw.out.trans (ar.mono aw.out.size));clear ar;have HX:Hid (Np.yes (Np.VRoot ⟨s.data.toList,ty,life,d⟩ hints)=r):=jq (by
    rw[<-HR.out];exact Np.uE ⟨λq=>⟨⟨Np.eZ.1 tu.out,Np.eZ.1 AY.out⟩,q⟩,λq=>q.2⟩)
   rw[HX.out];go_wp2_with fail;go_ret;exact⟨rfl,bi.out⟩
end
section
open Go.RowKit Go.MapKept Go.Shelf Go.Sort
theorem asK(f u f' u':Int)(w:World) :
 Calls prog 122 #[.agg #[.int .i64 f,.int .i64 u],.agg #[.int .i64 f',.int .i64 u']] w λe w'=>e = .returned (.int .i64 (Np.cL f f'))/\∃ q os,w'=grow (w.drewN q) os:=by
 go_enter func122,ntmps122;go_wp2_with (go_at_call 123;refine (Bm _ _ _).mono ?_;rintro e w' ⟨rfl,rfl⟩);go_ret;exact⟨rfl,0,_,by rw[alloc_eq_grow,alloc_eq_grow,grow_grow];rfl⟩
def Np.tv(h:Np.Hist):Prop:=(1<=h.stop/\h.stop<=10000000)/\(0<=h.drift/\h.drift<=1000)
theorem boX{h:Np.Hist} : Np.VHist h↔((Np.tv h/\Np.VWorld ⟨h.hosts,[],h.anchor,h.hints⟩)/\∀ c∈h.copies,Np.CopyOk h c)/\h.copies.Pairwise λc d=>¬ Np.iV c d:=
 ⟨λv=>⟨⟨⟨⟨v.stop,v.drift⟩,v.hosts,v.root,λp hp=>(by cases hp),List.Pairwise.nil⟩,v.each⟩,v.apart⟩,λv=>⟨v.1.1.1.1,v.1.1.1.2,v.1.1.2.hosts,v.1.1.2.root,v.1.2,v.2⟩⟩
structure rl(W:World)(X:Nat)(hv cv:Value)(stop:Int):Prop where
 c0:W.cell? ⟨X,0,none⟩=some hv
 c1:W.cell? ⟨X,1,none⟩=some cv
 c8:W.cell? ⟨X,8,none⟩=some (.int .i64 stop)
 lt:X<W.heap.size
theorem rl.keep{W W':World}{X B:Nat}{hv cv:Value}{stop:Int}(h:rl W X hv cv stop)(hb:Below B W W')(hB:X<B):rl W' X hv cv stop:=⟨(hb.cell hB).trans h.c0,(hb.cell hB).trans h.c1,(hb.cell hB).trans h.c8,lQ h.lt hb.size⟩
theorem rl.turned{W W':World}{X r:Nat}{hv cv:Value}{stop:Int}(h:rl W X hv cv stop)(ht:Turned r W W')(hr:X≠r):rl W' X hv cv stop:=⟨(ht.cell hr).trans h.c0,(ht.cell hr).trans h.c1,(ht.cell hr).trans h.c8,by rw[ht.size];exact h.lt⟩
theorem aeJ{xs xs6:List fh}{l:List Np.Copy}{c:Np.Copy}{j:Nat}{g:List Np.Span}{v v':Value}(h:Np.GrpI (xs.map λx=>(x.1,x.2.1)) l)(hc:(xs6=xs/\xs[j]?=some (Np.fZ c,g,v))\/(Np.fZ c∉xs.map (·.1)/\xs6=xs ++ [(Np.fZ c,[],.slice none 0 0)]/\j=xs.length/\g = []/\v = .slice none 0 0)):Np.GrpI ((xs6.set j (Np.fZ c,g ++ [Np.ia c],v')).map λx=>(x.1,x.2.1)) (l ++ [c]):=by
 rcases hc with ⟨rfl,hj⟩ | ⟨hn,rfl,rfl,rfl,rfl⟩
 ·rw[List.map_set];exact h.old (by rw[List.getElem?_map,hj];rfl)
 ·rw[List.set_append_right _ _ (bQ _),Nat.sub_self,List.set_cons_zero,List.map_append];exact h.new (by rw[List.map_map];exact hn)
theorem Qv(hv:Value)(hs:List Np.Host)(cv:Value)(l:List Np.Copy)(s:ByteArray)(ay:s.size<=140737488355328)(ty life:Int)(dv:Value)(d:List Np.Datum)(cU:Value)(hints:List Int)(drift stop:Int)(hl:l.length<=500)(hz:∀ p∈l,p.zone.sets.length<=20000)(w:World)(hR:gq w w.heap.size)
 (hh:SlR gp 3 w w.heap.size hv hs) (hd:SlR lR 5 w w.heap.size cv l) (hdd:SlR ci 3 w w.heap.size dv d) (pK:SlR ei 1 w w.heap.size cU hints) :
 Calls prog 56 #[.agg #[hv,cv,.string s,.int .i64 ty,.int .i64 life,dv,cU,.int .i64 drift,.int .i64 stop]] w λe w'=>e = .returned (.bool (Np.yes (Np.VHist ⟨hs,l,⟨s.data.toList,ty,life,d⟩,hints,drift,stop⟩)))/\Below w.heap.size w w':=by
 obtain⟨r,hr⟩:=afZ (Np.yes (Np.VHist ⟨hs,l,⟨s.data.toList,ty,life,d⟩,hints,drift,stop⟩));obtain⟨iq,se⟩:∃ h:Np.Hist,(⟨hs,l,⟨s.data.toList,ty,life,d⟩,hints,drift,stop⟩:Np.Hist)=h:=⟨_,rfl⟩;rw[hr];have HR:Hid (Np.yes (((Np.tv iq/\Np.VWorld ⟨hs,[],⟨s.data.toList,ty,life,d⟩,hints⟩)/\∀ c∈l,Np.CopyOk iq c)/\l.Pairwise λc d=>¬ Np.iV c d)=r):=jq (by rw[<-hr,<-se];exact (Np.uE (boX (h:=⟨hs,l,⟨s.data.toList,ty,life,d⟩,hints,drift,stop⟩))).symm);have jw:Hid (Np.tv iq↔(1<=stop/\stop<=10000000)/\(0<=drift/\drift<=1000)):=jq (by rw[<-se];exact Iff.rfl);have iW:Hid (∀ c,Np.CopyOk iq c↔(0<=c.host/\c.host<hs.length)/\(0<=c.frm/\c.frm<c.til/\c.til<=stop)/\Np.VZone c.zone):=jq (λc=>by rw[<-se];exact⟨λh=>⟨h.host,h.times,h.zone⟩,λh=>⟨h.1,h.2.1,h.2.2⟩⟩);have HH:=jq hh;have HD:=jq hd;have qu:=jq hdd;have qw:=jq pK;have ef:=jq hR;have HZ:=jq hz;obtain⟨A1,c1,rfl,_,_⟩:=ak hh;obtain⟨A2,c2,rfl,_,_⟩:=ak hd;obtain⟨A3,c3,rfl,_,_⟩:=ak hdd;obtain⟨A4,c4,rfl,_,_⟩:=ak pK;clear hr se hd hR hh hdd pK hz;obtain⟨n1,bE⟩:=afZ hs.length;obtain⟨n2,bS⟩:=afZ l.length;obtain⟨n3,cR⟩:=afZ d.length;obtain⟨n4,cX⟩:=afZ hints.length;rw[bE] at HH iW |-;rw[bS] at HD hl |-;rw[cR] at qu |-;rw[cX] at qw |-;have HN:=jq (And.intro bE (And.intro bS (And.intro cR cX)));clear bE bS cR cX;obtain⟨W1,aB⟩:=afZ (w.alloc (.cells #[.slice A1 n1 c1,.slice A2 n2 c2,.string s,.int .i64 ty,.int .i64 life,.slice A3 n3 c3,.slice A4 n4 c4,.int .i64 drift,.int .i64 stop] 29));have aM:Below w.heap.size w W1:=by rw[<-aB];exact blAl
 have jS:W1.heap.size=w.heap.size+1:=by rw[<-aB];simp
 obtain⟨X,hX⟩:=afZ w.heap.size;have lO:=jq hX;obtain⟨k0,k1,k2,k3,k4,k5,k6,k7,k8⟩:=cRow9 W1 X (.slice A1 n1 c1) (.slice A2 n2 c2) (.string s) (.int .i64 ty) (.int .i64 life) (.slice A3 n3 c3) (.slice A4 n4 c4) (.int .i64 drift) (.int .i64 stop) (by rw[<-aB,<-hX];simp[go_sem]);rw[hX] at aM jS HH HD qu qw ef;rw[hX];have aS:=jq aM;clear aM;go_enter func56,ntmps56;by_cases g1:stop<1
 ·have dg1:decide (stop<1)=true:=uQ g1;have HX:Hid (r=false):=jq (by rw[<-HR.out];exact Np.aR λq=>by have:=jw.out.1 q.1.1.1;omega);clear g1;go_wp2_with fail;go_ret;exact⟨ag HX.out.symm,aS.out⟩
 have dg1:decide (stop<1)=false:=tQ g1;by_cases g2:10000000<stop
 ·have dg2:decide (10000000<stop)=true:=uQ g2;have HX:Hid (r=false):=jq (by rw[<-HR.out];exact Np.aR λq=>by have:=jw.out.1 q.1.1.1;omega);clear g2;go_wp2_with fail;go_ret;exact⟨ag HX.out.symm,aS.out⟩
 have dg2:decide (10000000<stop)=false:=tQ g2;by_cases g3:drift<0
 ·have dg3:decide (drift<0)=true:=uQ g3;have HX:Hid (r=false):=jq (by rw[<-HR.out];exact Np.aR λq=>by have:=jw.out.1 q.1.1.1;omega);clear g3;go_wp2_with fail;go_ret;exact⟨ag HX.out.symm,aS.out⟩
 have dg3:decide (drift<0)=false:=tQ g3;by_cases g4:1000<drift
 ·have dg4:decide (1000<drift)=true:=uQ g4;have HX:Hid (r=false):=jq (by rw[<-HR.out];exact Np.aR λq=>by have:=jw.out.1 q.1.1.1;omega);clear g4;go_wp2_with fail;go_ret;exact⟨ag HX.out.symm,aS.out⟩
 have dg4:decide (1000<drift)=false:=tQ g4;have d5:decide (4000<(n2:Int))=false:=afY;have Gv:Hid (Np.tv iq):=jq (jw.out.2 (by omega));clear g1 g2 g3 g4;go_wp2_with fail;refine (Uh _ hs _ [] s ay ty life _ d _ hints (by simp) (by simp) _ ((ef.out.keep aS.out).more (by omega)) ((HH.out.keep gy aS.out).more mN (by omega)) ⟨none,0,rfl,by simp,by simp,λi x hx=>by simp at hx⟩ ((qu.out.keep cJ aS.out).more di (by omega)) ((qw.out.keep kE aS.out).more qa (by omega))).mono ?_;rintro e w2 ⟨rfl,aa⟩;have aO:=aa.size;have tf:Hid (rl w2 X (.slice A1 n1 c1) (.slice A2 n2 c2) stop):=jq (rl.keep ⟨k0,k1,k8,by omega⟩ aa (by omega));have ah:=aeX aS aa;clear aa aB k0 k1 k2 k3 k4 k5 k6 k7 k8;have k0:=tf.out.c0;have k1:=tf.out.c1;have JH:=tf.out.lt;obtain⟨b1,av⟩:=afZ (Np.yes (Np.VWorld ⟨hs,[],⟨s.data.toList,ty,life,d⟩,hints⟩));rw[av];have tu:=jq av;clear av;have sr:∀ (w:World),(Instr.makeMap 184 none).run prog w = .ok (.map (some w.heap.size)) (w.alloc (.map #[] 0)):=λw=>by
  simp[Instr.makeMap,Result.andThen]
 cases b1 with
 | false=>
  have HX:Hid (r=false):=jq (by rw[<-HR.out];exact Np.aR λq=>by have:=Np.bV q.1.1.2;rw[tu.out] at this;cases this);go_wp2_with fail;go_ret;exact⟨ag HX.out.symm,ah.out⟩
 | true=>
  go_wp2_with fail;obtain⟨wm,CN⟩:=afZ (w2.alloc (.map #[] 0));obtain⟨X1,pE⟩:=afZ w2.heap.size;have uZ:Hid (MapX (X1+1) X1 [] wm):=jq (by rw[<-CN,<-pE];exact MapX.made _ _);have hzm:wm.heap.size=X1+1:=by rw[<-CN,<-pE];simp
  have tR:Below X1 w2 wm:=by rw[<-CN,<-pE];exact blAl
  have JE:X<X1:=by omega
  have GB:Hid (rl wm X (.slice A1 n1 c1) (.slice A2 n2 c2) stop):=jq (tf.out.keep tR JE);have GF:=aeX ah tR;rw[CN,pE];clear CN pE tR k0 k1;have gk:Hid (l.length=n2):=jq HN.out.2.1;go_loopw [47] (λi wr=>∃ (k:Nat) (xs:List fh),k<=n2/\i = .int .i64 k/\X1<wr.heap.size/\Hid (Below X1 wm wr)/\Hid (MapX (X1+1) X1 xs wr)/\Hid (Np.GrpI (xs.map λx=>(x.1,x.2.1)) (l.take k))/\Hid (∀ c∈l.take k,Np.CopyOk iq c)) (λi _=>n2 - (intOf i).toNat)
  case atStart=>exact⟨0,[],jQ _,rfl,by omega,jq (vQ _ _),uZ,jq Np.GrpI.nil,jq (by simp)⟩
  case round=>
   obtain⟨k,xs,hk,rfl,du,bp,HM,HG,bW⟩:=hrel;have HB:=aeX GF bp.out;have fe:=jq (GB.out.keep bp.out JE);have k0:=fe.out.c0;have k8:=fe.out.c8;by_cases ab:k<n2
   ·obtain⟨x,ae⟩:∃ x,l[k]?=some x:=⟨_,aQ (by rw[gk.out];exact ab)⟩;obtain⟨b,o,sn,vz,rfl,bZ,aD,cu,dg,f0,f1,f2,f3,f4⟩:=vJ (HD.out.keep mg HB.out) ae;obtain⟨Az,cz,rfl,_,_⟩:=ak dg;obtain⟨nz,jh⟩:=afZ x.zone.sets.length;rw[jh] at f4;have HT:Hid (l.take (k+1)=l.take k ++ [x]):=jq (by
     obtain⟨hl,he⟩:=cQ.1 ae;rw[fQ hl,he])
    have HF:Hid (¬ Np.CopyOk iq x->r=false):=jq (λh=>by rw[<-HR.out];exact Np.aR λq=>h (q.1.2 x (gQ ae)));have A9:Hid (x.zone.sets.length<=20000):=jq (HZ.out x (gQ ae));have aZ:=jq aD;have gD:Hid (SlR br 5 wr wr.heap.size (.slice Az nz cz) x.zone.sets):=jq (by rw[<-jh];exact dg.more bK (by omega));obtain⟨w3,eF⟩:=afZ (wr.alloc (.cells #[.int .i64 x.host,.int .i64 x.frm,.int .i64 x.til,.string sn,.slice Az nz cz] 46));have dR:w3.heap.size=wr.heap.size+1:=by rw[<-eF];simp
    have ai:Below wr.heap.size wr w3:=by rw[<-eF];exact blAl
    obtain⟨p0,p1,p2,p3,p4⟩:=cRow5 w3 (wr.heap.size) (.int .i64 x.host) (.int .i64 x.frm) (.int .i64 x.til) (.string sn) (.slice Az nz cz) (by rw[<-eF];simp[go_sem]);have q0:w3.cell? ⟨X,0,none⟩=some (.slice A1 n1 c1):=aeK ai k0;have q8:w3.cell? ⟨X,8,none⟩=some (.int .i64 stop):=aeK ai k8;have aw:=aeX HB ai;have GH:=aeX bp ai;have qz:=jq (HM.out.keep ai);have rE:Hid (SlR br 5 w3 w3.heap.size (.slice Az nz cz) x.zone.sets):=jq ((gD.out.keep aP ai).more bK ai.size);clear ae aD dg jh ai gD;by_cases g1:x.host<0
    ·have dg1:decide (x.host<0)=true:=uQ g1;have HX:Hid (r=false):=jq (HF.out λh=>by have:=(iW.out x).1 h;omega);clear g1;go_wp2_with fail;go_ret;exact⟨ag HX.out.symm,aw.out⟩
    have dg1:decide (x.host<0)=false:=tQ g1;by_cases g2:(n1:Int)<=x.host
    ·have dg2:decide ((n1:Int)<=x.host)=true:=uQ g2;have HX:Hid (r=false):=jq (HF.out λh=>by have:=(iW.out x).1 h;omega);clear g2;go_wp2_with fail;go_ret;exact⟨ag HX.out.symm,aw.out⟩
    have dg2:decide ((n1:Int)<=x.host)=false:=tQ g2;by_cases g3:x.frm<0
    ·have dg3:decide (x.frm<0)=true:=uQ g3;have HX:Hid (r=false):=jq (HF.out λh=>by have:=(iW.out x).1 h;omega);clear g3;go_wp2_with fail;go_ret;exact⟨ag HX.out.symm,aw.out⟩
    have dg3:decide (x.frm<0)=false:=tQ g3;by_cases g4:x.til<=x.frm
    ·have dg4:decide (x.til<=x.frm)=true:=uQ g4;have HX:Hid (r=false):=jq (HF.out λh=>by have:=(iW.out x).1 h;omega);clear g4;go_wp2_with fail;go_ret;exact⟨ag HX.out.symm,aw.out⟩
    have dg4:decide (x.til<=x.frm)=false:=tQ g4;by_cases g5:stop<x.til
    ·have dg5:decide (stop<x.til)=true:=uQ g5;have HX:Hid (r=false):=jq (HF.out λh=>by have:=(iW.out x).1 h;omega);clear g5;go_wp2_with fail;go_ret;exact⟨ag HX.out.symm,aw.out⟩
    have dg5:decide (stop<x.til)=false:=tQ g5;have Ar:Hid ((0<=x.host/\x.host<n1)/\(0<=x.frm/\x.frm<x.til/\x.til<=stop)):=jq (by omega);clear g1 g2 g3 g4 g5;go_wp2_with fail;refine (L0 sn cu _ x.zone.sets A9.out w3 ((ef.out.keep aw.out).more (by omega)) rE.out).mono ?_;rintro e w4 ⟨rfl,ar⟩;have fz:w3.heap.size<=w4.heap.size:=ar.size;have s0:w4.cell? ⟨wr.heap.size,0,none⟩=some (.int .i64 x.host):=aeK ar p0;have s1:w4.cell? ⟨wr.heap.size,1,none⟩=some (.int .i64 x.frm):=aeK ar p1;have s2:w4.cell? ⟨wr.heap.size,2,none⟩=some (.int .i64 x.til):=aeK ar p2;have s3:w4.cell? ⟨wr.heap.size,3,none⟩=some (.string sn):=aeK ar p3;have s4:w4.cell? ⟨wr.heap.size,4,none⟩=some (.slice Az nz cz):=aeK ar p4;have bi:=aeX aw ar;have GI:=aeX GH ar;have Hv:=jq (qz.out.keep ar);clear ar p0 p1 p2 p3 p4 eF f0 f1 f2 f3 f4 q0 q8 k0 k8 qz;obtain⟨rz,fu⟩:=afZ (Np.yes (Np.VZone ⟨sn.data.toList,x.zone.sets⟩));rw[fu];have gR:=jq fu;clear fu
    cases rz with
    | false=>
     have HX:Hid (r=false):=jq (HF.out λh=>by
      have h1:=((iW.out x).1 h).2.2;have h2:x.zone=⟨sn.data.toList,x.zone.sets⟩:=by rw[aZ.out]
      rw[h2] at h1;have h3:=Np.bV h1;rw[gR.out] at h3
      cases h3)
     go_wp2_with fail;go_ret;exact⟨ag HX.out.symm,bi.out⟩
    | true=>
     have rn:Hid (Np.CopyOk iq x):=jq ((iW.out x).2 ⟨Ar.out.1,Ar.out.2,by
      have h2:x.zone=⟨sn.data.toList,x.zone.sets⟩:=by rw[aZ.out]
      rw[h2];exact Np.eZ.1 gR.out⟩)
     have Ib:Hid (∀ c∈l.take (k+1),Np.CopyOk iq c):=jq (λc hc=>by
      rw[HT.out] at hc;rcases List.mem_append.1 hc with hc | hc
      ·exact bW.out c hc
      ·rw[List.mem_singleton] at hc;subst hc;exact rn.out)
     have pb:Hid (Np.fZ x=(x.host,sn.data.toList)):=jq (by unfold Np.fZ;rw[aZ.out]);obtain⟨w5,aK⟩:=afZ (w4.alloc (.cells #[.int .i64 x.host,.string sn] 186));obtain⟨w6,bC⟩:=afZ (w5.alloc (.cells #[.int .i64 x.frm,.int .i64 x.til] 110));have lB:w5.heap.size=w4.heap.size+1:=by rw[<-aK];simp
     have eX:w6.heap.size=w5.heap.size+1:=by rw[<-bC];simp
     have aG:Below w4.heap.size w4 w5:=by rw[<-aK];exact blAl
     have aT:Below w4.heap.size w4 w6:=by rw[<-bC];exact aG.alloc (by omega) _
     have t0:w5.cell? ⟨w4.heap.size,0,none⟩=some (.int .i64 x.host):=by rw[<-aK];simp[go_sem]
     have t1:w5.cell? ⟨w4.heap.size,1,none⟩=some (.string sn):=by rw[<-aK];simp[go_sem]
     have u1:w5.cell? ⟨wr.heap.size,1,none⟩=some (.int .i64 x.frm):=aeK aG s1;have u2:w5.cell? ⟨wr.heap.size,2,none⟩=some (.int .i64 x.til):=aeK aG s2;have y0:w6.cell? ⟨w5.heap.size,0,none⟩=some (.int .i64 x.frm):=by rw[<-bC];simp[go_sem]
     have y1:w6.cell? ⟨w5.heap.size,1,none⟩=some (.int .i64 x.til):=by rw[<-bC];simp[go_sem]
     have Wi:=jq (Hv.out.keep aT);have cn:=aeX bi aT;have U5:=aeX GI aT;have gd:Hid (∀ (j:Nat) (g:List Np.Span) (v:Value),xs[j]?=some ((x.host,sn.data.toList),g,v)->g.length<=500):=jq (λj g v hj=>by
      have h1:=HG.out.each ((x.host,sn.data.toList),g) (List.mem_map.2 ⟨_,gQ hj,rfl⟩);simp only at h1;rw[h1];unfold Np.fC;rw[List.length_map];refine yQ (List.length_filter_le _ _) ?_;rw[List.length_take,gk.out];omega)
     clear aG aT;go_wp2_with (first
      | (refine bsY _ rfl _ _ rfl (X1+1) X1 xs rfl Wi.out (Nat.lt_succ_self _) (x.host,sn.data.toList) rfl ?_;intro w7 j7 g7 v7 xs7 JV Qw QF CE;have Dq:=jq JV;have Hk:=jq Qw;have Hw:=jq QF;have Iv:=jq CE;have y0':w7.cell? ⟨w5.heap.size,0,none⟩=some (.int .i64 x.frm):=(CE.cell (by dsimp only;omega)).trans y0;have y1':w7.cell? ⟨w5.heap.size,1,none⟩=some (.int .i64 x.til):=(CE.cell (by dsimp only;omega)).trans y1;have mG:w7.heap.size=w6.heap.size:=CE.size;have tp:Hid (g7.length<=100000):=jq (by rcases JV with ⟨_,hj⟩ | ⟨_,_,_,rfl,_⟩;exact yQ (gd.out _ _ _ hj) (by omega);simp);clear JV Qw QF CE)
      | (at_builtin;refine Uj _ rfl _ _ rfl (X1+1) v7 g7 rfl (Hw.out.row _ (gQ Hk.out)) w5.heap.size x.frm x.til (by simp[go_sem]) y0' y1' tp.out (by omega) ?_;intro v8 w8 eE cr PY;have H8:=jq (And.intro eE (And.intro cr PY));have p6:w7.heap.size<=w8.heap.size:=cr.size;clear eE cr PY)
      | (refine bsX _ w7 rfl _ _ _ rfl (X1+1) X1 xs7 Hw.out (Nat.lt_succ_self _) j7 (x.host,sn.data.toList) g7 (g7 ++ [⟨x.frm,x.til⟩]) v7 v8 Hk.out H8.out.2.1 H8.out.1 H8.out.2.2 rfl rfl rfl ?_;intro w9 yW Rv;have H9:=jq (And.intro yW Rv);clear yW Rv))
     go_roundw
     case rel=>
      have e9:Below X1 wm w9:=((U5.out.trans (Iv.out.below (bQ _))).grown H8.out.2.1 (by omega) (λq hq=>by have:=(World.ownsRow.lt (Hw.out.row _ (gQ Hk.out)) q hq).1;omega)).trans (H9.out.2.below (bQ _));refine⟨k+1,_,by omega,by go_num,by rw[H9.out.2.size];omega,jq e9,jq H9.out.1,jq ?_,Ib⟩;rw[HT.out];have hc:=Dq.out;rw[<-pb.out] at hc
      have:=aeJ (v':=v8) HG.out hc
      rw[pb.out] at this;exact this
     case measure=>simp[intOf]<;>omega
   ·have gm:Hid (l.take k=l):=jq (kQ (by rw[gk.out];omega));have An:Hid (Np.GrpI (xs.map λx=>(x.1,x.2.1)) l):=jq (by have:=HG.out;rwa [gm.out] at this);have AE:Hid (∀ c∈l,Np.CopyOk iq c):=jq (by have:=bW.out;rwa [gm.out] at this);have k1:=fe.out.c1;clear HG bW gm k0 k8;go_wp2_with (at_range;refine btZ _ rfl _ rfl (X1+1) X1 xs rfl HM.out ?_;intro w10 Ra pF Fs;have DR:=jq Ra;have kK:=aeX bp pF;clear Ra pF);go_frame;obtain⟨I,hI⟩:=afZ wr.heap.size;rw[hI] at DR Fs;rw[hI];have bCZ:X1<I:=by omega
    have Nf:Hid (∀ x∈xs,x.2.1.length<=500/\∀ t∈x.2.1,t.frm<t.til):=jq (λx hx=>by
     have h1:=An.out.each (x.1,x.2.1) (List.mem_map.2 ⟨x,hx,rfl⟩);simp only at h1;rw[h1];refine⟨?_,λt ht=>?_⟩
     ·unfold Np.fC;rw[List.length_map];refine yQ (List.length_filter_le _ _) ?_;rw[gk.out];omega
     ·obtain⟨c,hc,rfl⟩:=List.mem_map.1 ht;exact (((iW.out c).1 (AE.out c (List.mem_filter.1 hc).1)).2.1).2.1)
    have kJ:Hid ((l.Pairwise λc d=>¬ Np.iV c d)↔∀ x∈xs,x.2.1.Pairwise λa b=>¬ Np.og a b):=jq (An.out.ok.trans ⟨λh x hx=>h (x.1,x.2.1) (List.mem_map.2 ⟨x,hx,rfl⟩),λh y hy=>by
     obtain⟨x,hx,rfl⟩:=List.mem_map.1 hy;exact h x hx⟩)
    have bvK:=GB;clear fe HM bp HB hI du k1;go_loopw [] (λwq=>∃ (seen:Array Nat) (xs':List fh),I<wq.heap.size/\Hid (Below X1 wm wq)/\Hid (RangeX (X1+1) X1 I xs' seen wq)/\Hid (xs'.length=xs.length/\∀ (j:Nat) (x':fh),xs'[j]?=some x'->∃ x:fh,xs[j]?=some x/\x'.2.1.Perm x.2.1)/\Hid (∀ (j:Nat) (x:fh),seen.contains j=true->xs[j]?=some x->x.2.1.Pairwise λa b=>¬ Np.og a b)) (λwq=>wq.rangeLeft X1 I)
    case atStart=>exact⟨#[],xs,by omega,kK,DR,jq ⟨rfl,λj x hx=>⟨x,hx,List.Perm.refl _⟩⟩,jq (by simp)⟩
    case round=>
     obtain⟨seen,xs',Jp,GG,Xc,DV,NC⟩:=hrel;have UV:=jq (GB.out.keep GG.out JE);have k1:=UV.out.c1;go_wp2_with (at_next;refine btQ _ rfl _ rfl (X1+1) X1 I xs' seen rfl Xc.out (λrW=>?_) (λj p g v w11 hj KA Fl Km hen=>?_))
     ·have qA:Hid (l.Pairwise λc d=>¬ Np.iV c d):=jq (kJ.out.2 λx hx=>by
       obtain⟨j,hj,rfl⟩:=nQ.1 hx;exact NC.out j _ (rW j (by rw[DV.out.1];exact hj)) (aQ hj))
      have jY:=aeX GF GG.out;refine (T4 _ l (by rw[gk.out];omega) _ ((HD.out.keep mg jY.out).more zF (by omega))).mono ?_;rintro e w13 ⟨v13,rfl,Cp,BM⟩;obtain⟨A13,c13,rfl⟩:=cD.form Cp;have o6:=aeX jY BM;have Ki:(Np.dH (l.map (·.zone.apex))).length<=500:=by
       have:=Np.Db (l.map (·.zone.apex))
       rw[List.length_map,gk.out] at this;omega
      obtain⟨m13,Ch⟩:=afZ ((Np.dH (l.map (·.zone.apex))).length);rw[Ch] at Ki |-;have d13:decide ((m13:Int)<=500)=true:=agQ;clear Cp BM Ch;go_wp2_with fail;go_ret;exact⟨ag (by rw[<-HR.out];exact (Np.bV ⟨⟨⟨Gv.out,Np.eZ.1 tu.out⟩,AE.out⟩,qA.out⟩).symm),o6.out⟩
     ·obtain⟨xj,xk,Kv⟩:=DV.out.2 j _ hj;have hlg:g.length=xj.2.1.length:=Kv.length_eq;have hl5:=(Nf.out xj (gQ xk)).1;have Nw:=jq Kv;have D4:=jq xk;have HJ:=jq hj;have vr:=jq KA;have bxY:=jq Fl;have bxQ:=jq Km;have bzX:I<w11.heap.size:=by rw[Fl.size];exact Jp
      have qn:Hid (Below X1 wm w11):=jq (GG.out.trans (Fl.below (by omega)));refine (TS _ asK (enters_of func122 (by kernel_rfl) rfl) (X1+1) v g w11 (vr.out.mapX.row _ (gQ (by exact HJ.out))) (by omega)).mono ?_;rintro e w12 ⟨rfl,ys,hp,uf,E8,yT⟩;have WS:Hid (RangeX (X1+1) X1 I (xs'.set j (p,ys,v)) (seen.push j) w12):=jq (vr.out.changed (Nat.lt_succ_self _) HJ.out yT E8);have ym:Hid (Np.IJ ys↔xj.2.1.Pairwise λa b=>¬ Np.og a b):=jq (Np.a7Y (hp.trans Nw.out) uf (Nf.out xj (gQ D4.out)).2);have Nz:Hid (ys.Perm xj.2.1):=jq (hp.trans Nw.out);have me:∀ q,v.ownBlock=some q->X1+1<=q:=λq hq=>(World.ownsRow.lt (vr.out.mapX.row _ (gQ (by exact HJ.out))) q hq).1;have lE:Hid (Below X1 wm w12):=jq (qn.out.grown yT (by omega) (λq hq=>by have:=me q hq;omega));have azQ:w12.rangeLeft X1 I<wr.rangeLeft X1 I:=by
       have e:w12.rangeLeft X1 I=w11.rangeLeft X1 I:=Te (yT.block X1 (by omega) (λe=>by have:=me _ e.symm;omega)) (yT.block I (by omega) (λe=>by have:=KA.row _ (gQ hj);exact this e.symm));rw[e];exact Km
      have aFX:I<w12.heap.size:=by have:=yT.size;omega
      have NR:Hid (SlR fj 2 w12 w12.heap.size v ys):=jq (aW.slr E8 (by have:=hp.length_eq;omega));have xX:Hid (¬ Np.IJ ys->r=false):=jq (λh=>by
       rw[<-HR.out];refine Np.aR λq=>h (ym.out.2 ?_);exact (kJ.out.1 q.2) xj (gQ D4.out))
      have hy5:ys.length<=500:=by rw[Nz.out.length_eq];exact hl5
      obtain⟨Av,cv,rfl⟩:=aW.form E8;obtain⟨wo,rfl⟩:=afJ wr;clear hp uf E8 yT KA Fl Km hen hj xk Kv me k1;obtain⟨ny,sA⟩:=afZ ys.length;rw[sA] at hy5 NR;rw[sA];have Nm:=jq sA;clear sA;go_wp2_with fail;go_loopw [9] (λi wi=>∃ q:Nat,1<=q/\(q<=ny\/q=1)/\i = .int .i64 q/\Hid (Below w12.heap.size w12 wi)/\Hid (∀ t (h:t+1<ys.length),t+1<q->ys[t].til<=ys[t+1].frm)) (λi _=>ny - (intOf i).toNat)
      case atStart=>exact⟨1,bQ _,.inr rfl,rfl,jq (vQ _ _),jq (λt h h2=>by omega)⟩
      case round=>
       obtain⟨q,wV,kp,rfl,cB,HQ⟩:=hrel;have sP:=cB.out.size;by_cases QD:q<ny
       ·obtain⟨m,hm⟩:∃ m,q=m+1:=⟨q - 1,by omega⟩;have sA:=Nm.out;have yY:m<ys.length:=by omega
        have Q6:q<ys.length:=by omega
        obtain⟨a,ha⟩:∃ a,ys[m]?=some a:=⟨_,aQ yY⟩;obtain⟨b,hb⟩:∃ b,ys[q]?=some b:=⟨_,aQ Q6⟩;have Dw:=NR.out.keep gN cB.out;obtain⟨bb,oo,rfl⟩:=Lo (k:=m) Dw yY;obtain⟨b7,JL⟩:=Gd Dw ha;obtain⟨_,JM⟩:=Gd Dw hb;have a0:=JL.c0;have a1:=JL.c1;have b0:=JM.c0;have b1:=JM.c1;have bR:IntKind.i64.wrap ((q:Int) - 1)=(m:Int):=by rw[show (q:Int) - 1=m by omega];simp[IntKind.wrap,IntKind.bits,IntKind.signed];omega
        have i1:=kNN q;have i2:(q:Int)<(ny:Int):=by omega
        have i3:(0:Int)<=(m:Int):=by omega
        have i4:(m:Int)<(ny:Int):=by omega
        have i5:m<ny:=by omega
        have xN:Hid (b.frm<a.til->r=false):=jq (λab=>xX.out λko=>by
         have h1:=ko m (by omega);obtain⟨e1,e2⟩:=cQ.1 ha;obtain⟨e3,e4⟩:=cQ.1 hb;subst hm;rw[e2,e4] at h1;omega)
        have MQ:Hid (¬ b.frm<a.til->∀ t (h:t+1<ys.length),t+1<q+1->ys[t].til<=ys[t+1].frm):=jq (λoD t h h2=>by
         by_cases e:t=m
         ·subst e;obtain⟨e1,e2⟩:=cQ.1 ha;obtain⟨e3,e4⟩:=cQ.1 hb;subst hm;rw[e2,e4];omega
         ·exact HQ.out t h (by omega))
        obtain⟨af,au⟩:=a;obtain⟨bf,bu⟩:=b;dsimp only at a0 a1 b0 b1 xN MQ;clear ha hb Dw JL JM hm sA yY Q6 b7;by_cases rT:bf<au
        ·have dd:decide (bf<au)=true:=uQ rT;have HX:=jq (xN.out rT);have jY:=jq (GF.out.trans ((lE.out.trans (cB.out.afK)).afK));clear rT;go_wp2_with fail;go_quiet (fail);go_wp2_with fail;go_ret;exact⟨ag HX.out.symm,below_drewN jY.out _⟩
        ·have dd:decide (bf<au)=false:=tQ rT;have HX:=jq (MQ.out rT);clear rT;go_wp2_with fail;go_quiet (fail);go_wp2_with fail;go_roundw
         case rel=>exact⟨q+1,by omega,by omega,by go_num,jq (below_drewN cB.out _),HX⟩
         ·simp[intOf]<;>omega
       ·have qA:Hid (xj.2.1.Pairwise λa b=>¬ Np.og a b):=jq (ym.out.1 λt h=>HQ.out t h (by have:=Nm.out;omega));go_wp2_with fail;go_roundw
        case rel=>
         refine⟨seen.push j,_,by omega,aeX lE cB.out,jq (WS.out.keep cB.out),jq ⟨by rw[List.length_set];exact DV.out.1,λj' x' hx'=>?_⟩,jq λj' x hs hx=>?_⟩
         ·rw[List.getElem?_set] at hx';split at hx'
          ·rename_i e;subst e;rw[Qb (cQ.1 HJ.out).1] at hx'
           cases hx'
           exact⟨xj,D4.out,Nz.out⟩
          ·exact DV.out.2 j' x' hx'
         ·rw[Array.contains_push,Bool.or_eq_true] at hs;rcases hs with hs | hs
          ·exact NC.out j' x hs hx
          ·have e:j'=j:=by simpa using hs
           subst e
           have:=D4.out
           rw[this] at hx
           cases hx
           exact qA.out
        case measure=>
         have e:=Te (w:=w12) (w':=wr) (r:=X1) (I:=I) (cB.out.block _ (by omega)) (cB.out.block _ (by omega));rw[e];exact azQ
end
section
open Go.RowKit
theorem Tc:∀ (o:List (List UInt8)) (a:List UInt8) (q:Nat) (hq:q<o.length),(∀ t (h:t<o.length),t<q->Np.aL o[t] a<0)->o[q]=a->Np.ep o a=o
 | [],_,_,hq,_,_=>by simp at hq
 | x::l,a,0,_,_,he=>by
   simp at he;subst he;rw[Np.ep,Qc (by rw[Np.eY.self];omega),Qb rfl]
 | x::l,a,q+1,hq,ab,he=>by
   have h0:=ab 0 (by simp) (by omega);rw[Np.ep,Qb (by simpa using h0),Tc l a q (by simpa using hq) (λt h ht=>ab (t+1) (by simpa using h) (by omega)) (by simpa using he)]
theorem Ld:∀ (o:List (List UInt8)) (a:List UInt8) (q:Nat),q<=o.length->(∀ t (h:t<o.length),t<q->Np.aL o[t] a<0)->(∀ h:q<o.length,¬ Np.aL o[q] a<0/\o[q]≠a)->Np.ep o a=o.take q++a::o.drop q
 | [],a,q,_,_,_=>by simp[Np.ep]
 | x::l,a,0,_,_,hn=>by
   obtain⟨h1,h2⟩:=hn (by simp);simp at h1 h2;rw[Np.ep,Qc (by omega),Qc h2];rfl
 | x::l,a,q+1,hq,ab,hn=>by
   have h0:=ab 0 (by simp) (by omega);rw[Np.ep,Qb (by simpa using h0),Ld l a q (by simpa using hq) (λt h ht=>ab (t+1) (by simpa using h) (by omega)) (λh=>hn (by simpa using h))];rfl
theorem beQ{o:List (List UInt8)}{x:List UInt8}{m:Nat}(hm:m<o.length):(o.take (m+1)++x::o.drop (m+1)).set (m+1) o[m]=o.take m++o[m]::o.drop m:=by
 have h1:(o.take (m+1)).length=m+1:=by rw[List.length_take];omega
 rw[List.set_append_right _ _ (by omega),h1,Nat.sub_self,List.set_cons_zero,fQ hm,List.append_assoc,sQ hm];rfl
theorem TJ{o:List (List UInt8)}{x a:List UInt8}{q:Nat}(hq:q<=o.length):(o.take q++x::o.drop q).set q a=o.take q++a::o.drop q:=by
 have h1:(o.take q).length=q:=by rw[List.length_take];omega
 rw[List.set_append_right _ _ (by omega),h1,Nat.sub_self,List.set_cons_zero]
theorem beZ{o:List (List UInt8)}{x:List UInt8}{j t:Nat}(ht:t<j)(hj:j<=o.length):(o.take j++x::o.drop j)[t]?=o[t]?:=by
 rw[List.getElem?_append_left (by rw[List.length_take];omega),List.getElem?_take_of_lt ht]
theorem TL{o:List (List UInt8)}{x:List UInt8}{j:Nat}(hj:j<=o.length):(o.take j++x::o.drop j)[j]?=some x:=by
 have h1:(o.take j).length=j:=by rw[List.length_take];omega
 rw[oQ (by omega),h1,Nat.sub_self];rfl
theorem TK{o:List (List UInt8)}{x:List UInt8}{j:Nat}(hj:j<=o.length):(o.take j++x::o.drop j).length=o.length+1:=by
 rw[List.length_append,List.length_cons,List.length_take,List.length_drop];omega
theorem Ta:∀ (o:List (List UInt8)) (a:List UInt8),(Np.ep o a).length<=o.length+1
 | [],a=>by simp[Np.ep]
 | x::l,a=>by
   rw[Np.ep];split
   ·have:=Ta l a;simp;omega
   ·split<;>simp
theorem Jd:∀ (l o:List (List UInt8)),(l.foldl Np.ep o).length<=o.length+l.length
 | [],o=>by simp
 | a::l,o=>by
   have h1:=Jd l (Np.ep o a);have h2:=Ta o a;rw[List.foldl_cons,List.length_cons];omega
theorem Pk:∀ (l o:List (List UInt8)) (y:List UInt8),y∈l.foldl Np.ep o->y∈o\/y∈l
 | [],o,y,h=>.inl h
 | a::l,o,y,h=>by
   rcases Pk l _ y h with h1 | h1
   ·have:∀ (o:List (List UInt8)),y∈Np.ep o a->y∈o\/y=a:=by
     intro o
     induction o with
     | nil=>intro h;rw[Np.ep,List.mem_singleton] at h;exact .inr h
     | cons x l ih=>
      intro h;rw[Np.ep] at h;split at h
      ·rcases List.mem_cons.1 h with h | h
       ·exact .inl (by rw[h];simp)
       ·rcases ih h with h | h
        ·exact .inl (mQ _ h)
        ·exact .inr h
      ·split at h
       ·exact .inl h
       ·rcases List.mem_cons.1 h with h | h
        ·exact .inr h
        ·exact .inl h
    rcases this o h1 with h2 | h2
    ·exact .inl h2
    ·exact .inr (by rw[h2];simp)
   ·exact .inr (mQ _ h1)
theorem Tu{X:Nat}{w:World}{v:Value}{o:List (List UInt8)}{a:List UInt8}{N1:Nat}(h:cD X w v (o ++ [a]))(hN:o.length+1=N1):∃ g cap,v = .slice (some ⟨g,0,none⟩) N1 cap/\w.ownsRow X 9 1 (.slice (some ⟨g,0,none⟩) N1 cap) N1 ((o ++ [a]).map aI):=by
 have e:(o ++ [a]).length=N1:=by simp[hN]
 have h1:w.ownsRow X 9 1 v N1 ((o ++ [a]).map aI):=by rw[<-e];exact h
 rcases h1.2 with ⟨_,h2⟩ | ⟨g,cap,cur,rfl,_⟩
 ·omega
 ·exact⟨g,cap,rfl,h1⟩
theorem a3Q(v:Value)(l:List Np.Copy)(bY:l.length<=20000)(iO:∀ c∈l,c.zone.apex.length<=1000)(w:World)(h:SlR lR 5 w w.heap.size v l) :
 Calls prog 90 #[v] w λe w'=>∃ v',e = .returned v'/\cD w.heap.size w' v' (Np.apexes l)/\Below w.heap.size w w':=by
 rw[<-Np.IN];have HD:=jq h;have kJ:=jq iO;obtain⟨A,c,rfl,bw,bT⟩:=ak h;clear h iO;obtain⟨X,hX⟩:=afZ w.heap.size;rw[hX] at HD |-;have lO:=jq hX;clear hX;go_enter func90,ntmps90;go_wp2_with fail;go_loopw [3,4] (λvo i wr=>∃ (k:Nat) (o:List (List UInt8)),k<=l.length/\i = .int .i64 k/\X<=wr.heap.size/\Hid (Below X w wr)/\Hid (cD X wr vo o)/\Hid (((l.take k).map (·.zone.apex)).foldl Np.ep []=o)) (λ_ i _=>l.length - (intOf i).toNat)
 case atStart=>exact⟨0,[],jQ _,rfl,by rw[lO.out];exact bQ _,jq (vQ _ _),jq ⟨by simp,.inl ⟨rfl,rfl⟩⟩,jq rfl⟩
 case round=>
  obtain⟨k,o,hk,rfl,yK,HB,HO,HE⟩:=hrel;have nY:Hid (o.length<=20000):=jq (by have:=Jd ((l.take k).map (·.zone.apex)) [];rw[HE.out] at this;simp at this;omega);have Ic:Hid (∀ y∈o,y.length<=1000):=jq (λy hy=>by
   rw[<-HE.out] at hy;rcases Pk _ _ _ hy with h1 | h1
   ·cases h1
   ·obtain⟨c,hc,rfl⟩:=List.mem_map.1 h1;exact kJ.out c (List.mem_of_mem_take hc))
  by_cases ab:k<l.length
  ·obtain⟨x,ae⟩:∃ x,l[k]?=some x:=⟨_,aQ ab⟩;obtain⟨b,oo,sn,vz,rfl,bZ,aD,cu,dg,f0,f1,f2,f3,f4⟩:=vJ (HD.out.keep mg HB.out) ae;have uP:Hid (((l.take (k+1)).map (·.zone.apex)).foldl Np.ep []=Np.ep o sn.data.toList):=jq (by
    obtain⟨hl,he⟩:=cQ.1 ae;rw[fQ hl,he,List.map_append,List.foldl_append,HE.out,aD];rfl)
   have azX:sn.size<=1000:=by
    have h1:=kJ.out x (gQ ae);rw[<-aD,bj] at h1;exact h1
   obtain⟨A0,c0,rfl⟩:=cD.form HO.out;obtain⟨N,hN⟩:=afZ o.length;have HN:=jq hN;have eu:Hid (wr.ownsRow X 9 1 (.slice A0 N c0) N (o.map aI)):=jq (by have:wr.ownsRow X 9 1 (.slice A0 o.length c0) o.length (o.map aI):=HO.out;rwa [hN] at this);have bAZ:N<=20000:=by rw[<-hN];exact nY.out
   rw[hN] at HO;rw[hN];obtain⟨wo,rfl⟩:=afJ wr;clear ae aD dg f4 hN;go_wp2_with fail;go_loopw [6] (λp wi=>∃ q:Nat,q<=N/\p = .int .i64 q/\Hid (Below wo.heap.size wo wi)/\Hid (∀ t (h:t<o.length),t<q->Np.aL o[t] sn.data.toList<0)) (λp _=>N - (intOf p).toNat)
   case atStart=>exact⟨0,jQ _,rfl,jq (vQ _ _),jq (λt h ht=>by omega)⟩
   case round=>
    obtain⟨q,hqN,rfl,cB,HQ⟩:=hrel;have sP:=cB.out.size;have vg:Hid (wr.ownsRow X 9 1 (.slice A0 N c0) N (o.map aI)):=jq (dS eu.out (λg hg=>cB.out.block g (eu.out.lt g hg).2));by_cases hq:q<N
    ·obtain⟨g,rfl⟩:∃ g,A0=some ⟨g,0,none⟩:=by
      rcases vg.out.2 with ⟨h1,h2⟩ | ⟨g,cap,cur,h1,_⟩
      ·omega
      ·simp only[Value.slice.injEq] at h1;exact⟨g,h1.1⟩
     have Q7:q<o.length:=by rw[HN.out];exact hq
     obtain⟨y,hy⟩:∃ y,o[q]?=some y:=⟨_,aQ Q7⟩;have r0:wr.cell? ⟨g,q,none⟩=some (aI y):=by rw[vg.out.cellAt q (by omega),List.getElem?_map,hy];rfl
     have aFQ:(⟨y.toArray⟩:ByteArray).size<=1000:=by
      have:=Ic.out y (gQ hy)
      rw[<-bj];exact this
     have HY:Hid (o[q]'Q7=y):=jq (cQ.1 hy).2;have bP:=Lf ⟨y.toArray⟩ sn aFQ azX;have e1:(⟨y.toArray⟩:ByteArray).data.toList=y:=rfl;rw[e1] at bP;have HC:=jq bP;clear bP e1 hy;by_cases fW:Np.aL y sn.data.toList<0
     ·have hd:decide (Np.aL y sn.data.toList<0)=true:=uQ fW;have vq:Hid (∀ t (h:t<o.length),t<q+1->Np.aL o[t] sn.data.toList<0):=jq (λt h ht=>by
       by_cases e:t=q
       ·subst e;rw[HY.out];exact fW
       ·exact HQ.out t h (by omega))
      obtain⟨cz,tT⟩:=afZ (Np.aL y sn.data.toList);rw[tT] at hd HC;clear fW tT;unfold aI at r0;go_wp2_with (go_at_call 164;refine (HC.out _).mono ?_;rintro e w5 ⟨rfl,aG⟩;have cg:=jq (cB.out.trans (aG.mono sP));clear aG);go_roundw
      case rel=>exact⟨q+1,by omega,by go_num,jq cg.out,vq⟩
      ·simp[intOf]<;>omega
     ·have hd:decide (Np.aL y sn.data.toList<0)=false:=tQ fW;have Wr:=jq fW;obtain⟨cz,tT⟩:=afZ (Np.aL y sn.data.toList);rw[tT] at hd HC;clear fW tT;unfold aI at r0;by_cases hey:y=sn.data.toList
      ·have dD:(y == sn.toList)=true:=by rw[dQ,hey];simp
       have AJ:Hid (Np.ep o sn.data.toList=o):=jq (Tc o _ q Q7 HQ.out (by rw[HY.out];exact hey));clear hey;go_wp2_with (go_at_call 164;refine (HC.out _).mono ?_;rintro e w5 ⟨rfl,aG⟩;have r0':=(aG.cell (p:=⟨g,q,none⟩) (by have:=(vg.out.lt g rfl).2;dsimp only;omega)).trans r0;have cg:=jq (cB.out.trans (aG.mono sP));clear aG);go_roundw
       case rel=>exact⟨k+1,o,by omega,by go_num,by have:=cg.out.size;omega,jq (HB.out.trans (cg.out.mono yK)),jq (HO.out.keep cg.out),jq (by rw[uP.out,AJ.out])⟩
       ·simp[intOf]<;>omega
      ·have dD:(y == sn.toList)=false:=by rw[dQ];simpa using hey
       have AJ:Hid (Np.ep o sn.data.toList=o.take q++sn.data.toList::o.drop q):=jq (Ld o _ q (by omega) HQ.out (λh=>by rw[HY.out];exact⟨Wr.out,hey⟩));clear hey;obtain⟨N1,nl⟩:=afZ (o.length+1);have Jy:=HN.out;have am:IntKind.i64.wrap ((N1:Int) - 1)=(N:Int):=by rw[show (N1:Int) - 1=N by omega];simp[IntKind.wrap,IntKind.bits,IntKind.signed];omega
       have agX:N+1=N1:=by omega
       have ii:=jq nl;clear nl Jy;go_wp2_with (first | (go_at_call 164;refine (HC.out _).mono ?_;rintro e w5 ⟨rfl,aG⟩;have r0':=(aG.cell (p:=⟨g,q,none⟩) (by have:=(vg.out.lt g rfl).2;dsimp only;omega)).trans r0;have cg:=jq (cB.out.trans (aG.mono sP));have rA:Hid (cD X w5 _ o):=jq (HO.out.keep cg.out);have JF:X<=w5.heap.size:=(by have:=cg.out.size;omega);clear aG) | (at_builtin;refine zS _ rfl _ _ rfl X _ o rfl (rA.out.alloc _) w5.heap.size sn.data.toList (by simp[go_sem]) (by simp[go_sem]) (by have:=nY.out;omega) (by simp;omega) ?_;intro v6 w6 qU aT;obtain⟨g6,cap6,rfl,Cw⟩:=Tu qU ii.out;have AM:=jq Cw;have cn:=jq ((((cg.out.mono yK).alloc JF _).trans aT));clear qU aT Cw));have eX:X<=w6.heap.size:=by have:=cn.out.size;omega
       obtain⟨wj,xe⟩:=afJ w6;clear xe;go_loopw [7] (λjv wi=>∃ (j:Nat) (z:List UInt8),q<=j/\j<=N/\jv = .int .i64 j/\X<=wi.heap.size/\Hid (Below X wo wi)/\Hid (wi.ownsRow X 9 1 (.slice (some ⟨g6,0,none⟩) N1 cap6) N1 ((o.take j++z::o.drop j).map aI))) (λjv _=>(intOf jv).toNat)
       case atStart=>exact⟨N,sn.data.toList,by omega,bQ _,rfl,eX,cn,jq (by rw[kQ (by rw[HN.out];exact bQ _),List.drop_eq_nil_of_le (by rw[HN.out];exact bQ _)];exact AM.out)⟩
       case round=>
        obtain⟨j,z,hqj,Ke,rfl,jS,xU,pj⟩:=hrel;have jg:j<=o.length:=by rw[HN.out];exact Ke
        have EK:X<=g6/\g6<wr.heap.size:=pj.out.lt g6 rfl;have ER:wr.cell? ⟨g6,j,none⟩=some (aI z):=by rw[pj.out.cellAt j (by omega),List.getElem?_map,TL jg];rfl
        have hfj:wr.frozen? ⟨g6,j,none⟩=false:=pj.out.frozenAt j;have atQ:(0:Int)<=(j:Int):=by omega
        have atZ:(j:Int)<(N1:Int):=by omega
        have atJ:j<N1:=by omega
        by_cases Q5:q<j
        ·obtain⟨m,hm⟩:∃ m,j=m+1:=⟨j - 1,by omega⟩;have yY:m<o.length:=by omega
         obtain⟨u,hu⟩:∃ u,o[m]?=some u:=⟨_,aQ yY⟩;have zk:o[m]=u:=(cQ.1 hu).2;have fW:wr.cell? ⟨g6,m,none⟩=some (aI u):=by rw[pj.out.cellAt m (by omega),List.getElem?_map,beZ (by omega) jg,hu];rfl
         have hjw:IntKind.i64.wrap ((j:Int) - 1)=(m:Int):=by rw[show (j:Int) - 1=m by omega];simp[IntKind.wrap,IntKind.bits,IntKind.signed];omega
         have gY:(0:Int)<=(m:Int):=by omega
         have Cg:(m:Int)<(N1:Int):=by omega
         have jO:m<N1:=by omega
         have BV:decide ((q:Int)<(j:Int))=true:=agQ;have cV:Hid ((wr.setCell ⟨g6,j,none⟩ (aI u)).ownsRow X 9 1 (.slice (some ⟨g6,0,none⟩) N1 cap6) N1 ((o.take m++u::o.drop m).map aI)):=jq (by
          have h1:=(World.ownsRow.stored pj.out j (aI u)).1;rw[<-List.map_set] at h1;subst hm;rw[<-zk,beQ yY,zk] at h1;exact h1)
         have jw:Hid (Below X wo (wr.setCell ⟨g6,j,none⟩ (aI u))):=jq (xU.out.setCell EK.1 _);have hqm:q<=m:=by omega
         have hmN:m<=N:=by omega
         have Wl:Hid (m<j):=jq (by omega);clear hm hu zk;unfold aI at ER fW cV jw;go_wp2_with fail;go_roundw
         case rel=>exact⟨m,u,hqm,hmN,rfl,by simp;omega,jw,cV⟩
         case measure=>have:=Wl.out;simp[intOf]<;>omega
        ·have Kf:j=q:=by omega
         subst Kf;have BV:decide ((j:Int)<(j:Int))=false:=afY;have cV:Hid ((wr.setCell ⟨g6,j,none⟩ (.string sn)).ownsRow X 9 1 (.slice (some ⟨g6,0,none⟩) N1 cap6) N1 ((o.take j++sn.data.toList::o.drop j).map aI)):=jq (by
          have h1:=(World.ownsRow.stored pj.out j (aI sn.data.toList)).1;rw[<-List.map_set,TJ jg] at h1;exact h1)
         have jw:Hid (Below X wo (wr.setCell ⟨g6,j,none⟩ (.string sn))):=jq (xU.out.setCell EK.1 _);have yf:Hid ((o.take j++sn.data.toList::o.drop j).length=N1):=jq (by rw[TK jg];exact ii.out);unfold aI at ER;go_wp2_with fail;go_roundw
         case rel=>exact⟨k+1,_,by omega,by go_num,by simp;omega,jq (HB.out.trans jw.out),jq (by unfold cD;rw[yf.out];exact cV.out),jq (by rw[uP.out,AJ.out])⟩
         ·simp[intOf]<;>omega
    ·have Kz:q=N:=by omega
     have AJ:Hid (Np.ep o sn.data.toList=o.take q++sn.data.toList::o.drop q):=jq (Ld o _ q (by rw[HN.out];exact hqN) HQ.out (λh=>by rw[HN.out] at h;omega));clear Kz;obtain⟨N1,nl⟩:=afZ (o.length+1);have Jy:=HN.out;have am:IntKind.i64.wrap ((N1:Int) - 1)=(N:Int):=by rw[show (N1:Int) - 1=N by omega];simp[IntKind.wrap,IntKind.bits,IntKind.signed];omega
     have agX:N+1=N1:=by omega
     have ii:=jq nl;clear nl Jy;have cg:=cB;have rA:Hid (cD X wr _ o):=jq (HO.out.keep cB.out);have JF:X<=wr.heap.size:=by omega
     go_wp2_with (first | (at_builtin;refine zS _ rfl _ _ rfl X _ o rfl (rA.out.alloc _) wr.heap.size sn.data.toList (by simp[go_sem]) (by simp[go_sem]) (by have:=nY.out;omega) (by simp;omega) ?_;intro v6 w6 qU aT;obtain⟨g6,cap6,rfl,Cw⟩:=Tu qU ii.out;have AM:=jq Cw;have cn:=jq ((((cg.out.mono yK).alloc JF _).trans aT));clear qU aT Cw));have eX:X<=w6.heap.size:=by have:=cn.out.size;omega
     obtain⟨wj,xe⟩:=afJ w6;clear xe;go_loopw [7] (λjv wi=>∃ (j:Nat) (z:List UInt8),q<=j/\j<=N/\jv = .int .i64 j/\X<=wi.heap.size/\Hid (Below X wo wi)/\Hid (wi.ownsRow X 9 1 (.slice (some ⟨g6,0,none⟩) N1 cap6) N1 ((o.take j++z::o.drop j).map aI))) (λjv _=>(intOf jv).toNat)
     case atStart=>exact⟨N,sn.data.toList,by omega,bQ _,rfl,eX,cn,jq (by rw[kQ (by rw[HN.out];exact bQ _),List.drop_eq_nil_of_le (by rw[HN.out];exact bQ _)];exact AM.out)⟩
     case round=>
      obtain⟨j,z,hqj,Ke,rfl,jS,xU,pj⟩:=hrel;have jg:j<=o.length:=by rw[HN.out];exact Ke
      have EK:X<=g6/\g6<wr.heap.size:=pj.out.lt g6 rfl;have ER:wr.cell? ⟨g6,j,none⟩=some (aI z):=by rw[pj.out.cellAt j (by omega),List.getElem?_map,TL jg];rfl
      have hfj:wr.frozen? ⟨g6,j,none⟩=false:=pj.out.frozenAt j;have atQ:(0:Int)<=(j:Int):=by omega
      have atZ:(j:Int)<(N1:Int):=by omega
      have atJ:j<N1:=by omega
      by_cases Q5:q<j
      ·exact absurd Q5 (by omega)
      ·have Kf:j=q:=by omega
       subst Kf;have BV:decide ((j:Int)<(j:Int))=false:=afY;have cV:Hid ((wr.setCell ⟨g6,j,none⟩ (.string sn)).ownsRow X 9 1 (.slice (some ⟨g6,0,none⟩) N1 cap6) N1 ((o.take j++sn.data.toList::o.drop j).map aI)):=jq (by
        have h1:=(World.ownsRow.stored pj.out j (aI sn.data.toList)).1;rw[<-List.map_set,TJ jg] at h1;exact h1)
       have jw:Hid (Below X wo (wr.setCell ⟨g6,j,none⟩ (.string sn))):=jq (xU.out.setCell EK.1 _);have yf:Hid ((o.take j++sn.data.toList::o.drop j).length=N1):=jq (by rw[TK jg];exact ii.out);unfold aI at ER;go_wp2_with fail;go_roundw
       case rel=>exact⟨k+1,_,by omega,by go_num,by simp;omega,jq (HB.out.trans jw.out),jq (by unfold cD;rw[yf.out];exact cV.out),jq (by rw[uP.out,AJ.out])⟩
       ·simp[intOf]<;>omega
  ·have HT:Hid (l.take k=l):=jq (kQ (by omega));go_wp2_with fail;go_ret;refine⟨_,rfl,?_,HB.out⟩;have h1:=HE.out;rw[HT.out] at h1;rw[h1];exact HO.out
end
section
open Go.RowKit Go.Sort Go.Shelf
theorem Pt{W w':World}(h:D.Below W.heap.size W w'):∃ q os,w'=grow (W.drewN q) os:=by
 refine⟨w'.drawn - W.drawn,w'.heap.extract W.heap.size w'.heap.size,?_⟩;have hh:w'.heap=W.heap++w'.heap.extract W.heap.size w'.heap.size:=by
  apply Array.ext_getElem?;intro j;rcases Nat.lt_or_ge j W.heap.size with h1 | h1
  ·rw[Array.getElem?_append_left h1];exact h.block j h1
  ·rw[Array.getElem?_append_right h1,Array.getElem?_extract];split
   ·congr 1;omega
   ·rw[Array.getElem?_eq_none (by omega)]
 have hd:w'.drawn=W.drawn+(w'.drawn - W.drawn):=by have:=h.drawn;omega
 have h1:=h.os;have h2:=h.tape;have h3:=h.output
 cases w'
 cases W
 simp only[grow,World.drewN,World.mk.injEq] at *;exact⟨hh,h2,hd,h1,h3⟩
abbrev VN:={ x:List UInt8 // Np.al x=true }
instance:Inhabited VN:=⟨⟨[46],by decide⟩⟩
def qK(x:VN):Value:=aI x.1
def la(x y:VN):Int:=Np.aL x.1 y.1
theorem bjY:SWO (ltOf la) where
 irrefl x:=by unfold ltOf la;rw[Np.eY.self];rfl
 trans x y z h1 h2:=by
  unfold ltOf la at *;simp only[Qa] at *;exact Np.eY.trans _ _ _ h1 h2
 ntrans x y z h1 h2:=by
  unfold ltOf la at *;simp only[decide_eq_false_iff_not] at *;intro h3;rcases Int.lt_trichotomy (Np.aL x.1 y.1) 0 with h4 | h4 | h4
  ·exact h1 h4
  ·have:=Np.eY.zero _ _ h4;rw[this] at h3;exact h2 h3
  ·have:=Np.eY.trans _ _ _ (Np.eY.anti' _ _ h4) h3
   exact h2 this
theorem bkK(x y:VN)(h1:ltOf la x y=false)(h2:ltOf la y x=false):x=y:=by
 unfold ltOf la at *;simp only[decide_eq_false_iff_not] at *;apply Subtype.ext;rcases Int.lt_trichotomy (Np.aL x.1 y.1) 0 with h4 | h4 | h4
 ·exact absurd h4 h1
 ·exact Np.eY.zero _ _ h4
 ·exact absurd (Np.eY.anti' _ _ h4) h2
theorem TY{x:List UInt8}(h:Np.al x=true):(⟨x.toArray⟩:ByteArray).size<=140737488355328:=by
 have:=s9 h
 have e:(⟨x.toArray⟩:ByteArray).size=x.length:=by rw[<-bj]
 omega
theorem bvQ(x y:VN)(w:World) :
 Calls prog 136 #[qK x,qK y] w λe w'=>e = .returned (.int .i64 (la x y))/\D.Below w.heap.size w w':=by
 have hc:=D.compare_any ⟨x.1.toArray⟩ ⟨y.1.toArray⟩ (TY x.2) (TY y.2) w;have e1:(⟨x.1.toArray⟩:ByteArray).data.toList=x.1:=rfl;have e2:(⟨y.1.toArray⟩:ByteArray).data.toList=y.1:=rfl;have e3:D.cmpVal x.1 y.1 = .tuple #[.int .i64 (la x y),.int .i64 0]:=by unfold D.cmpVal;rw[x.2,y.2];rfl
 rw[e1,e2,e3] at hc;have HC:=jq hc;clear hc e1 e2 e3;unfold qK aI;generalize la x y=z at HC |-;go_enter func136,ntmps136;go_wp2_with (go_at_call 137;refine HC.out.mono ?_;rintro e w2 ⟨rfl,aa⟩;have ah:=jq aa;clear aa);go_ret;exact⟨rfl,ah.out⟩
theorem apQ(enc:VN->Value){w:World}{g n:Nat}{os:Array Obj}{cur:Array Value}{e:TypeId}{fr:Nat×Nat}(d:Array VN)(hb:w.heap[g]?=some (.cells cur e fr)) :
 (sortWorld enc w g 0 n d os).heap[g]?=some (.cells (putCells enc 0 d cur) e fr):=by
 have hl:g<w.heap.size:=(eQ.1 hb).1;unfold sortWorld;rw[heap_grow_old _ _ (by simpa [putRow,mapBlock,Sort.ahead] using hl)];simp[putRow,mapBlock,Sort.ahead,Array.getElem?_modify,hb,onCells]
theorem aeZ(enc:VN->Value){w:World}{g n:Nat}{os:Array Obj}(d:Array VN):w.grownBy (sortWorld enc w g 0 n d os) (some g):=by
 unfold sortWorld;refine⟨rfl,rfl,rfl,by simp,λq hq hne=>?_⟩;rw[heap_grow_old _ _ (by simpa using hq)]
 have:g≠q:=λe=>hne (by rw[e])
 simp[putRow,mapBlock,Sort.ahead,Array.getElem?_modify,this]
theorem bfY(base:Nat)(v:Value)(xs:List (List UInt8))(w:World)(hown:cD base w v xs)(hv:∀ x∈xs,Np.al x=true)(hl:xs.length<=100000) :
 Calls prog 135 #[v,.func (.func 136) #[] #[]] w λe w'=>e = .returned (.tuple #[])/\cD base w' v (Np.ux xs)/\w.grownBy w' v.ownBlock:=by
 obtain⟨ys,hys⟩:∃ ys:List VN,ys.map (·.1)=xs:=⟨xs.pmap (λx h=>⟨x,h⟩) hv,by rw[List.map_pmap];simp⟩;subst hys;have hs:Np.ux (ys.map (·.1))=(ys.mergeSort λx y=>!(ltOf la) y x).map (·.1):=by
  unfold Np.ux;exact (List.map_mergeSort (r:=λx y:VN=>!(ltOf la) y x) (s:=λa b=>!decide (Np.aL b a<0)) (f:=λx:VN=>x.1) (l:=ys) (λa _ b _=>rfl)).symm
 have nF:w.ownsRow base 9 1 v (ys.map (·.1)).length ((ys.map (·.1)).map aI):=hown;rw[List.length_map] at nF hl;rcases nF.2 with ⟨rfl,h0⟩ | ⟨g,cap,cur,rfl,dM,hb,h1,h2,h3,h4⟩
 ·have:ys = []:=rQ h0
  subst this;refine (Tryz.slices_SortFunc_none (α:=VN) none 0 _ w).mono ?_;intro e w' hh;obtain⟨rfl,rfl⟩:=hh;exact⟨rfl,by rw[hs];simpa using hown,⟨rfl,rfl,rfl,bQ _,λ_ _ _=>rfl⟩⟩
 have eg:∀ args w,(callFunc 136 args).run prog w = .ok (.enter 136 args) w:=enters_of func136 (by kernel_rfl) rfl;have hH:Holds qK w g 0 ys.toArray:=λj hj=>by
  have hj':j<ys.length:=by simpa using hj
  refine⟨?_,by simp[World.frozen?,hb]⟩
  have:=nF.cellAt j (by omega)
  rw[Nat.zero_add,this,List.getElem?_map,List.getElem?_map,aQ hj',getElem!_pos ys.toArray j hj];simp[qK]
 have vT:CmpLays1 prog 136 #[] qK la g 0 ys.toArray.size w:=λm os dk _ x y=>(bvQ x y _).mono λe w' ⟨he,hw⟩=>⟨he,Pt hw⟩;have yO:=Tryz.slices_SortFunc_total qK (λ_=>rfl) la bjY 136 #[] g 0 cap ys.toArray w eg vT hH (eQ.1 hb).1 (by simp;omega) bkK;have hlen:(ys.mergeSort λx y=>!(ltOf la) y x).length=ys.length:=List.length_mergeSort _;rw[List.size_toArray] at yO;refine yO.mono λe w' ⟨he,n,os,hw⟩=>⟨he,?_,?_⟩
 ·subst hw;rw[hs];unfold cD;rw[List.length_map,hlen];refine⟨by simp,.inr ⟨g,cap,_,rfl,dM,apQ qK _ hb,h1,h2,by simp[putCells,h3],?_⟩⟩;apply List.ext_getElem?;intro j;by_cases hj:j<ys.length
  ·have pN:j<cur.size:=by omega
   have ww:j<(ys.mergeSort λx y=>!(ltOf la) y x).length:=by omega
   rw[List.getElem?_take_of_lt (by omega),Array.getElem?_toList,List.getElem?_map,List.getElem?_map,aQ ww];simp[putCells,pN,hj,qK]
  ·rw[List.getElem?_take_eq_none (by omega),List.getElem?_eq_none (by simp;omega)]
 ·subst hw;exact aeZ qK _
def ik(W:World)(B:Nat)(e:List Value)(h:Np.Hist):Prop:=∃ (hv cv:Value) (s:ByteArray) (dv cU:Value),e = [hv,cv,.string s,.int .i64 h.anchor.type,.int .i64 h.anchor.life,dv,cU,.int .i64 h.drift,.int .i64 h.stop]/\s.data.toList=h.anchor.name/\s.size<=140737488355328/\
 SlR gp 3 W B hv h.hosts/\SlR lR 5 W B cv h.copies/\SlR ci 3 W B dv h.anchor.data/\SlR ei 1 W B cU h.hints
theorem sU:dl ik:=λ_ _ _ _ _ ⟨hv,cv,s,dv,cU,h0,h1,h2,h3,h4,h5,h6⟩ hb=>⟨hv,cv,s,dv,cU,h0,h1,h2,h3.keep gy hb,h4.keep mg hb,h5.keep cJ hb,h6.keep kE hb⟩
theorem sV:dy ik:=λ_ _ _ _ _ ⟨hv,cv,s,dv,cU,h0,h1,h2,h3,h4,h5,h6⟩ hb=>⟨hv,cv,s,dv,cU,h0,h1,h2,h3.more mN hb,h4.more zF hb,h5.more di hb,h6.more qa hb⟩
def Np.tc(h:Np.Hist):Prop:=h.copies.length<=500/\∀ c∈h.copies,c.zone.sets.length<=20000
theorem Yo{h:Np.Hist}(v:Np.VHist h):∀ x∈Np.dH (h.copies.map (·.zone.apex)),Np.al x=true:=λx hx=>by
 obtain⟨c,hc,rfl⟩:=List.mem_map.1 (Np.FD.1 hx);have h1:=(v.each c hc).zone.right;unfold Np.eK at h1;simp only[Bool.and_eq_true] at h1;exact h1.1.1
theorem bvZ(e:List Value)(h:Np.Hist)(hf:Np.tc h)(w:World)(hR:gq w w.heap.size)(hh:ik w w.heap.size e h) :
 Calls prog 60 #[.agg e.toArray] w λe w'=>((Np.VHist h/\∃ v',e = .returned (.tuple #[v',.int .i64 0])/\cD w.heap.size w' v' (Np.apexes h.copies))\/(¬ Np.VHist h/\e = .returned (.tuple #[.slice none 0 0,.int .i64 1])))/\Below w.heap.size w w':=by
 obtain⟨hv,cv,s,dv,cU,rfl,h1,h2,h3,h4,h5,h6⟩:=hh;obtain⟨hosts,copies,⟨name,ty,life,data⟩,hints,drift,stop⟩:=h;dsimp only at h1 h3 h4 h5 h6;subst h1;have H3:=jq h3;have H4:=jq h4;have H5:=jq h5;have H6:=jq h6;have ef:=jq hR;have dZ:=jq hf;obtain⟨A1,c1,rfl,_,_⟩:=ak h3;obtain⟨A2,c2,rfl,_,_⟩:=ak h4;obtain⟨A3,c3,rfl,_,_⟩:=ak h5;obtain⟨A4,c4,rfl,_,_⟩:=ak h6;clear h3 h4 h5 h6 hR hf;obtain⟨r,hr⟩:=afZ (Np.yes (Np.VHist ⟨hosts,copies,⟨s.data.toList,ty,life,data⟩,hints,drift,stop⟩));have lN:=jq hr;obtain⟨n1,bE⟩:=afZ hosts.length;obtain⟨n2,bS⟩:=afZ copies.length;obtain⟨n3,cR⟩:=afZ data.length;obtain⟨n4,cX⟩:=afZ hints.length;rw[bE] at H3 |-;rw[bS] at H4 |-;rw[cR] at H5 |-;rw[cX] at H6 |-;clear hr bE bS cR cX;obtain⟨X,hX⟩:=afZ w.heap.size;have lO:=jq hX;obtain⟨W1,aB⟩:=afZ (w.alloc (.cells #[.slice A1 n1 c1,.slice A2 n2 c2,.string s,.int .i64 ty,.int .i64 life,.slice A3 n3 c3,.slice A4 n4 c4,.int .i64 drift,.int .i64 stop] 29));have aM:Below w.heap.size w W1:=by rw[<-aB];exact blAl
 have jS:W1.heap.size=w.heap.size+1:=by rw[<-aB];simp
 obtain⟨k0,k1,k2,k3,k4,k5,k6,k7,k8⟩:=cRow9 W1 X (.slice A1 n1 c1) (.slice A2 n2 c2) (.string s) (.int .i64 ty) (.int .i64 life) (.slice A3 n3 c3) (.slice A4 n4 c4) (.int .i64 drift) (.int .i64 stop) (by rw[<-aB,<-hX];simp[go_sem]);rw[hX] at aM jS H3 H4 H5 H6 ef |-;have aS:=jq aM;clear aM;go_enter func60,ntmps60;go_wp2_with fail;refine (Qv _ hosts _ copies s h2 ty life _ data _ hints drift stop dZ.out.1 dZ.out.2 _ ((ef.out.keep aS.out).more (by omega)) ((H3.out.keep gy aS.out).more mN (by omega)) ((H4.out.keep mg aS.out).more zF (by omega)) ((H5.out.keep cJ aS.out).more di (by omega)) ((H6.out.keep kE aS.out).more qa (by omega))).mono ?_;rintro e w2 ⟨rfl,aa⟩;have aO:=aa.size;have m1:w2.cell? ⟨X,1,none⟩=some (.slice A2 n2 c2):=aeK aa k1;have ah:=aeX aS aa;clear aa aB k0 k1 k2 k3 k4 k5 k6 k7 k8 hX;rw[lN.out]
 cases r with
 | false=>
  have HN:Hid (¬ Np.VHist ⟨hosts,copies,⟨s.data.toList,ty,life,data⟩,hints,drift,stop⟩):=jq (λh=>by have:=Np.bV h;rw[lN.out] at this;cases this);go_wp2_with fail;go_ret2;exact⟨.inr ⟨HN.out,rfl⟩,ah.out⟩
 | true=>
  have HV:Hid (Np.VHist ⟨hosts,copies,⟨s.data.toList,ty,life,data⟩,hints,drift,stop⟩):=jq (Np.eZ.1 lN.out);have tn:Hid (copies.length<=500):=jq dZ.out.1;go_wp2_with fail;refine (T4 _ copies (by have:=tn.out;omega) _ ((H4.out.keep mg ah.out).more zF (by omega))).mono ?_;rintro e w3 ⟨v3,rfl,km,ai⟩;have dR:=ai.size;have lL:=jq km;have aw:=aeX ah ai;clear km ai;go_wp2_with fail;refine (bfY w2.heap.size _ _ _ lL.out (Yo HV.out) (by have:=Np.Db (copies.map (·.zone.apex));rw[List.length_map] at this;have:=tn.out;omega)).mono ?_;rintro e w4 ⟨rfl,jP,EV⟩;have H4':=jq (And.intro (cD.weak jP (show X<=w2.heap.size by omega)) (aw.out.grown EV (by omega) (λq hq=>by have:=(World.ownsRow.lt lL.out q hq).1;omega)));clear jP EV;go_wp2_with fail;go_ret2;exact⟨.inl ⟨HV.out,_,rfl,H4'.out.1⟩,H4'.out.2⟩
end
section
open Go.RowKit
theorem YE{B:Nat}{M:Nat->Prop}{w:World}(hM:∀ k,M k->B<=k):Below B w (bG w M):=
 ⟨rfl,rfl,rfl,by rw[gj];exact bQ _,λk hk=>lD (λh=>by have:=hM k h;omega)⟩
theorem SlR.around{α:Type}{R:aiQ α}{sz B:Nat}{w:World}{v:Value}{xs:List α}{M:Nat->Prop}(h:SlR R sz w B v xs)(hk:dl R)(hm:dy R)(hM:∀ k,M k->B<=k)(hB:B<=w.heap.size):SlR R sz (bG w M) w.heap.size v xs:=
 (h.keep hk (YE hM)).more hm hB
theorem cC.keep{α:Type}{R:aiQ α}{sz:Nat}{e:TypeId}{base:Nat}{M:Nat->Prop}{w w':World}{v:Value}{xs:List α}(h:cC R sz e base M w v xs)(hk:dl R)(hs:eB R)(hm:dy R)(hb:Below w.heap.size w w'):cC R sz e base M w' v xs:=by
 refine h.leaves hk hs hm (Leaves'.of_below hb) (λg hg=>?_);obtain⟨rows,h1,h2,h3,h4⟩:=h;exact⟨hb.block g (h2.lt g hg).2,h3 g hg⟩
theorem cC.lt{α:Type}{R:aiQ α}{sz:Nat}{e:TypeId}{base:Nat}{M:Nat->Prop}{w:World}{v:Value}{xs:List α}(h:cC R sz e base M w v xs):∀ g,v.ownBlock=some g->base<=g/\g<w.heap.size:=by
 obtain⟨rows,h1,h2,h3,h4⟩:=h;exact h2.lt
theorem cC.formN{α:Type}{R:aiQ α}{sz:Nat}{e:TypeId}{base:Nat}{M:Nat->Prop}{w:World}{v:Value}{xs:List α}{n:Nat}(h:cC R sz e base M w v xs)(hn:xs.length=n):∃ A c,v = .slice A n c:=by
 subst hn;exact h.form
theorem oS:eB jb:=λ_ _ _ _ _ _ hM ⟨s,v,h1,h2,h3,h5⟩=>⟨s,v,h1,h2,h3.sans js hM,h5⟩
theorem a8Z:∀ (w:World) (B:Nat) (r:List Value) (y:Np.Placed),jb w B r y->∀ u∈r,u.oneCell'=true:=λw B r y ⟨s,v,_,_,h3,h5⟩ u hu=>by
 obtain⟨A,c,rfl,_⟩:=ak h3;rw[h5] at hu;simp only[List.mem_cons,Qh,or_false] at hu;rcases hu with rfl | rfl | rfl<;>rfl
theorem a8K:∀ (w:World) (B:Nat) (r:List Value) (y:Np.Signed),br w B r y->∀ u∈r,u.oneCell'=true:=λw B r y ⟨s,v,u',_,_,h3,h4,h5⟩ u hu=>by
 obtain⟨A,c,rfl,_⟩:=ak h3;obtain⟨A',c',rfl,_⟩:=ak h4;rw[h5] at hu;simp only[List.mem_cons,Qh,or_false] at hu;rcases hu with rfl | rfl | rfl | rfl | rfl<;>rfl
theorem cC.slr_sans{α:Type}{R:aiQ α}{sz:Nat}{e:TypeId}{base:Nat}{M M':Nat->Prop}{w:World}{v:Value}{xs:List α}(hs:eB R)(hm:dy R)(h:cC R sz e base M w v xs)(hM:∀ k,M' k->M k/\v.ownBlock≠some k)(hl:xs.length<=140737488355328):SlR R sz (bG w M') w.heap.size v xs:=by
 obtain⟨rows,h1,h2,h3,h4⟩:=h;have h5:bD R sz e base w.heap.size (bG w M') v xs:=⟨rows,h1,dS h2 (λg hg=>lD (λhm'=>(hM g hm').2 hg)),λi r x hr hx=>⟨(h4 i r x hr hx).1,hs _ _ _ _ _ _ (λk hk=>(hM k hk).1) (h4 i r x hr hx).2⟩⟩;have h6:=h5.slr hm (by rw[gj];exact bQ _) hl;rwa [gj] at h6
theorem Leaves'.slr{α:Type}{R:aiQ α}{sz:Nat}(hk:dl R)(hs:eB R)(hm:dy R){M M':Nat->Prop}{w w':World}(h:Leaves' M w w' M'){v:Value}{xs:List α}(hr:SlR R sz (bG w M) w.heap.size v xs):SlR R sz (bG w' M') w'.heap.size v xs:=by
 have hb:Below w.heap.size (bG w M) (bG w' λk=>M k\/M' k):=by
  refine⟨h.os,h.tape,h.output,by rw[gj,gj];exact h.size,λk hk=>?_⟩;by_cases hm:M k
  ·rw[xy hm,xy (Or.inl hm)];have h1:k<w'.heap.size:=lQ hk h.size;simp[hk,h1]
  ·have hk':=h.keep k hk hm;rw[lD hm,lD (λe=>e.elim hm hk'.1)];exact hk'.2
 exact ((hr.keep hk hb).more hm h.size).sans hs (λ_ e=>.inr e)
def Df{α:Type}(R:aiQ α)(B n:Nat)(w:World)(e:List Value)(x:α):Prop:=∀ M:Nat->Prop,(∀ k,M k->B<=k/\k<n)->R (bG w M) w.heap.size e x
def dx{α:Type}(R:aiQ α)(sz B n:Nat)(w:World)(v:Value)(xs:List α):Prop:=∀ M:Nat->Prop,(∀ k,M k->B<=k/\k<n)->SlR R sz (bG w M) w.heap.size v xs
theorem Df.all{α:Type}{R:aiQ α}{B n:Nat}{w:World}{e:List Value}{x:α}(h:Df R B n w e x)(hs:eB R):R w w.heap.size e x:=hs.all (h (λ_=>False) (λ_ e=>e.elim))
theorem dx.all{α:Type}{R:aiQ α}{sz B n:Nat}{w:World}{v:Value}{xs:List α}(h:dx R sz B n w v xs)(hs:eB R):SlR R sz w w.heap.size v xs:=(h (λ_=>False) (λ_ e=>e.elim)).all hs
theorem a7J:eB gp:=λ_ _ _ _ _ _ _ h=>h
theorem a7K:eB ei:=λ_ _ _ _ _ _ _ h=>h
theorem bcX(l:List Np.Copy)(t:Int):(Np.rj l t).length<=l.length:=List.length_filter_le _ _
theorem Tryz.infoPlaced:(prog.info? 72).map (λi=>(i.zero,i.size,i.bytes))=some (some (.agg #[.int .i64 0,.string ⟨#[]⟩,.slice none 0 0]),3,48):=by kernel_rfl
def tB(W:World)(B:Nat)(e:List Value)(x:Np.WorldP):Prop:=∃ (hv zv:Value) (s:ByteArray) (dv cU:Value),e = [hv,zv,.string s,.int .i64 x.anchor.type,.int .i64 x.anchor.life,dv,cU]/\s.data.toList=x.anchor.name/\s.size<=140737488355328/\
 SlR gp 3 W B hv x.hosts/\SlR jb 3 W B zv x.zones/\SlR ci 3 W B dv x.anchor.data/\SlR ei 1 W B cU x.hints
theorem baK:dl tB:=λ_ _ _ _ _ ⟨hv,cv,s,dv,cU,h0,h1,h2,h3,h4,h5,h6⟩ hb=>⟨hv,cv,s,dv,cU,h0,h1,h2,h3.keep gy hb,h4.keep iT hb,h5.keep cJ hb,h6.keep kE hb⟩
theorem baX:dy tB:=λ_ _ _ _ _ ⟨hv,cv,s,dv,cU,h0,h1,h2,h3,h4,h5,h6⟩ hb=>⟨hv,cv,s,dv,cU,h0,h1,h2,h3.more mN hb,h4.more jr hb,h5.more di hb,h6.more qa hb⟩
theorem baY:eB tB:=λ_ _ _ _ _ _ hM ⟨hv,cv,s,dv,cU,h0,h1,h2,h3,h4,h5,h6⟩=>⟨hv,cv,s,dv,cU,h0,h1,h2,h3.sans a7J hM,h4.sans oS hM,h5.sans mL hM,h6.sans a7K hM⟩
end
section
open Go.RowKit Go.Shelf
def C5(l:List Np.Copy)(zone:List UInt8)(k:Int):List Np.Span:=(l.filter λc=>decide (c.host=k)&&(c.zone.apex == zone)).map Np.ia
theorem bdQ(l:List Np.Copy)(zone:List UInt8)(k:Int):(C5 l zone k).length<=l.length:=by
 unfold C5;rw[List.length_map];exact List.length_filter_le _ _
end
section
open Go.RowKit Go.Shelf
attribute [local go_sem] Oper.semAt_some
structure CV where
 host:Int
 frm:Int
 til:Int
 str:ByteArray
 A:Option Addr
 n:Nat
 c:Nat
def CV.cells(x:CV):Array Value:=#[.int .i64 x.host,.int .i64 x.frm,.int .i64 x.til,.string x.str,.slice x.A x.n x.c]
structure CVOf(w:World)(B:Nat)(x:CV)(c:Np.Copy):Prop where
 host:x.host=c.host
 frm:x.frm=c.frm
 til:x.til=c.til
 apex:x.str.data.toList=c.zone.apex
 size:x.str.size<=140737488355328
 sets:SlR br 5 w B (.slice x.A x.n x.c) c.zone.sets
 len:c.zone.sets.length=x.n
theorem CVOf.keep{w w':World}{B:Nat}{x:CV}{c:Np.Copy}(h:CVOf w B x c)(hb:Below B w w'):CVOf w' B x c:=⟨h.host,h.frm,h.til,h.apex,h.size,h.sets.keep aP hb,h.len⟩
theorem CVOf.more{w:World}{B B':Nat}{x:CV}{c:Np.Copy}(h:CVOf w B x c)(hb:B<=B'):CVOf w B' x c:=⟨h.host,h.frm,h.til,h.apex,h.size,h.sets.more bK hb,h.len⟩
theorem IZ{w:World}{B n c:Nat}{A:Option Addr}{xs:List Np.Copy}(h:SlR lR 5 w B (.slice A n c) xs):∃ L:List (CV×Np.Copy),L.map (·.2)=xs/\L.length=n/\∀ i x,L[i]?=some x->CVOf w B x.1 x.2/\∃ b o,A=some ⟨b,o,none⟩/\b<B/\cA w b (o+i * 5) x.1.cells.toList:=by
 have hn:n=xs.length:=by
  obtain⟨A',c',hA,_,_,_⟩:=h;simp only[Value.slice.injEq] at hA;exact hA.2.1
 have be:∀ k,k<=xs.length->∃ L:List (CV×Np.Copy),L.map (·.2)=xs.take k/\∀ i x,L[i]?=some x->CVOf w B x.1 x.2/\∃ b o,A=some ⟨b,o,none⟩/\b<B/\cA w b (o+i * 5) x.1.cells.toList:=by
  intro k
  induction k with
  | zero=>exact λ_=>⟨[],by simp,λi x hx=>by simp at hx⟩
  | succ k ih=>
   intro hk;obtain⟨L,h1,h2⟩:=ih (by omega);have hlen:L.length=k:=by have:=Qd List.length h1;simp at this;omega
   obtain⟨b,o,s,v,hA,hb,hs,ay,hv,f0,f1,f2,f3,f4⟩:=vJ h (aQ (by omega:k<xs.length));obtain⟨Az,cz,rfl,_,_⟩:=ak hv;refine⟨L ++ [(⟨xs[k].host,xs[k].frm,xs[k].til,s,Az,xs[k].zone.sets.length,cz⟩,xs[k])],by rw[List.map_append,h1,fQ (by omega)];rfl,λi x hx=>?_⟩;rcases Nat.lt_or_ge i L.length with ab | oD
   ·rw[List.getElem?_append_left ab] at hx;exact h2 i x hx
   ·rw[oQ oD] at hx;have h0:i - L.length=0:=by have:=(cQ.1 hx).1;simp at this;omega
    rw[h0] at hx;simp at hx;subst hx;obtain rfl:i=k:=by omega
    refine⟨⟨rfl,rfl,rfl,hs,ay,hv,rfl⟩,b,o,hA,hb,λj u hj=>?_⟩
    match j,hj with
    | 0,hj=>simp[CV.cells] at hj;subst hj;exact f0
    | 1,hj=>simp[CV.cells] at hj;subst hj;exact f1
    | 2,hj=>simp[CV.cells] at hj;subst hj;exact f2
    | 3,hj=>simp[CV.cells] at hj;subst hj;exact f3
    | 4,hj=>simp[CV.cells] at hj;subst hj;exact f4
    | j+5,hj=>simp[CV.cells] at hj
 obtain⟨L,h1,h2⟩:=be xs.length (bQ _);rw[List.take_length] at h1;exact⟨L,h1,by rw[hn,<-h1,List.length_map],h2⟩
theorem IW(a1 a2 a3 a4 a5 a6 a7 a8 a9:Value)(pf:FuncId)(caps:Array Value)(w:World) :
 Calls prog 69 #[.agg #[a1,a2,a3,a4,a5,a6,a7,a8,a9],.func (.func pf) #[] caps] w λe w'=>e = .returned (.func (.func 141) #[] #[.pointer (some ⟨w.heap.size,0,none⟩),.pointer (some ⟨w.heap.size+1,0,none⟩)])/\w'=(w.alloc (.cells #[a1,a2,a3,a4,a5,a6,a7,a8,a9] 29)).alloc (.cells #[.func (.func pf) #[] caps] 132):=by
 go_enter func69,ntmps69;go_wp2_with fail;go_ret;exact⟨rfl,rfl⟩
theorem T0{α:Type}{p:α->Bool}{L:List α}{k:Nat}{x:α}(hx:L[k]?=some x):(L.take (k+1)).filter p=if p x then (L.take k).filter p ++ [x] else (L.take k).filter p:=by
 obtain⟨hl,he⟩:=cQ.1 hx;rw[fQ hl,he,List.filter_append]
 cases h:p x<;>simp[h]
theorem T1{α:Type}(p:α->Bool)(L:List α)(k:Nat):(L.take k).filter p <+: L.filter p:=by
 conv => rhs;rw[<-List.take_append_drop k L]
 rw[List.filter_append];exact List.prefix_append _ _
theorem IX(L:List (CV×Np.Copy))(p:CV×Np.Copy->Bool)(pf:FuncId)(caps:Array Value)(X Ob n c:Nat)(Dr:Nat->Prop)(A:Option Addr)(w:World)(hX:Dr X)(hO:Dr Ob)(kX:w.cell? ⟨X,1,none⟩=some (.slice A n c))(kO:w.cell? ⟨Ob,0,none⟩=some (.func (.func pf) #[] caps))(BE:L.length=n)(Kp:n<=500)
 (hL:∀ i x,L[i]?=some x->∃ b o,A=some ⟨b,o,none⟩/\Dr b/\cA w b (o+i * 5) x.1.cells.toList) (eg:∀ args w,(callFunc pf args).run prog w = .ok (.enter pf args) w)
 (hp:∀ x∈L,∀ W,dI Dr w W->Calls prog pf (#[.agg x.1.cells]++caps) W λe W'=>e = .returned (.bool (p x))/\Below W.heap.size W W') :
 Bb prog 141 (λy=>#[y,.pointer (some ⟨X,0,none⟩),.pointer (some ⟨Ob,0,none⟩)]) (λx:CV×Np.Copy=>#[.agg x.1.cells]) (L.filter p) Dr w:=by
 intro l J Jx S W hW hJ Js hY hS hS' h0;have k1:=(hW.cell (p:=⟨X,1,none⟩) hX).trans kX;have HW:=jq hW;have HL:=jq hL;have HP:=jq hp;have jz:=jq BE;have KO:=jq kO;have qM:=hW.1;clear hW hL hp kX BE kO;refine callsIn_of_wp func141 rfl trivial ?_ rfl;simp only[ntmps141,List.size_toArray,List.length_cons,List.length_nil,Nat.reduceAdd,Nat.reduceSub,Array.replicate_succ,Array.replicate_zero,List.push_toArray,List.append_toArray,List.nil_append,List.cons_append];gi_wp2_with fail;gi_loopw [9] (λi wr=>∃ (k:Nat) (S1:Nat->Prop),k<=n/\i = .int .i64 k/\J ((L.take k).filter p) S1 wr/\(∀ k,S1 k->k<wr.heap.size)/\(∀ k,S1 k->S k\/W.heap.size<=k)/\Hid (dI Dr w wr)/\W.heap.size<=wr.heap.size) (λi _=>n - (intOf i).toNat)
 case atStart=>exact⟨0,S,jQ _,rfl,by simpa using h0,hS',λ_ e=>.inl e,HW,bQ _⟩
 case round=>
  obtain⟨k,S1,hk,rfl,hj,dG,bR,bp,ay⟩:=hrel;by_cases ab:k<n
  ·obtain⟨x,ae⟩:∃ x,L[k]?=some x:=⟨_,aQ (by rw[jz.out];exact ab)⟩;obtain⟨b,o,rfl,hb,hce⟩:=HL.out k x ae;have gw:dI Dr w wr:=bp.out;obtain⟨⟨xh,xf,xt,xs,xA,xn,xc⟩,cc⟩:=x;have f0:wr.cell? ⟨b,o+k * 5,none⟩=some (.int .i64 xh):=(gw.cell (p:=⟨b,o+k * 5,none⟩) hb).trans (hce 0 _ rfl);have f1:wr.cell? ⟨b,o+k * 5+1,none⟩=some (.int .i64 xf):=(gw.cell (p:=⟨b,o+k * 5+1,none⟩) hb).trans (hce 1 _ rfl);have f2:wr.cell? ⟨b,o+k * 5+2,none⟩=some (.int .i64 xt):=(gw.cell (p:=⟨b,o+k * 5+2,none⟩) hb).trans (hce 2 _ rfl);have f3:wr.cell? ⟨b,o+k * 5+3,none⟩=some (.string xs):=(gw.cell (p:=⟨b,o+k * 5+3,none⟩) hb).trans (hce 3 _ rfl);have f4:wr.cell? ⟨b,o+k * 5+4,none⟩=some (.slice xA xn xc):=(gw.cell (p:=⟨b,o+k * 5+4,none⟩) hb).trans (hce 4 _ rfl);have rr:=jq ae;clear hce ae;have cj:(0:Int)<=(k:Int):=by omega
   have ck:(k:Int)<(n:Int):=by omega
   obtain⟨w2,aj⟩:=afZ (wr.alloc (.cells #[.int .i64 xh,.int .i64 xf,.int .i64 xt,.string xs,.slice xA xn xc] 46));have aO:w2.heap.size=wr.heap.size+1:=by rw[<-aj];simp
   have aa:Below wr.heap.size wr w2:=by rw[<-aj];exact blAl
   obtain⟨p0,p1,p2,p3,p4⟩:=cRow5 w2 (wr.heap.size) (.int .i64 xh) (.int .i64 xf) (.int .i64 xt) (.string xs) (.slice xA xn xc) (by rw[<-aj];simp[go_sem]);have xg:dI Dr w w2:=gw.of_below aa;have qO:=(xg.cell (p:=⟨Ob,0,none⟩) hO).trans KO.out;have ah:=jq aa;have ew:=jq xg;clear gw aa xg;gi_wp2_with fail;refine⟨trivial,rfl,?_⟩;refine (callsIn_wide.2 (HP.out _ (gQ rr.out) w2 ew.out)).mono ?_;rintro e w3 ⟨rfl,ai⟩;replace p0:=aeK ai p0;replace p1:=aeK ai p1;replace p2:=aeK ai p2;replace p3:=aeK ai p3;replace p4:=aeK ai p4;have dR:=ai.size;have rS:Below wr.heap.size wr w3:=ah.out.trans (ai.afK);have ww:=hJ _ _ _ _ hj (ItStep.of_below rS);have aw:=jq (bp.out.of_below rS);have HT:=jq (T0 (p:=p) rr.out);clear aj ai hj qO
   cases bM:p (⟨xh,xf,xt,xs,xA,xn,xc⟩,cc) with
   | false=>
    have HX:=jq bM;clear bM rS;gi_wp2_with fail;refine⟨λ_ _=>trivial,?_⟩;gi_wp2_with fail;go_roundw
    case rel=>exact⟨k+1,S1,by omega,by go_num,by rw[HT.out,HX.out];exact ww,λk e=>by have:=dG k e;omega,bR,aw,by omega⟩
    ·simp[intOf]<;>omega
   | true=>
    have HX:=jq bM;have g8:(L.take k).filter p ++ [(⟨xh,xf,xt,xs,xA,xn,xc⟩,cc)] <+: L.filter p:=by
     have h1:=HT.out;rw[HX.out,Qb rfl] at h1;rw[<-h1];exact T1 p L (k+1)
    obtain⟨fn,tmps,assign,body,hy,hR⟩:=hY ((L.take k).filter p) (⟨xh,xf,xt,xs,xA,xn,xc⟩,cc) S1 w3 g8 ww (λk e=>by have:=dG k e;omega) (by omega);have oK:Sem.run prog (Instr.yield l #[.agg #[.int .i64 xh,.int .i64 xf,.int .i64 xt,.string xs,.slice xA xn xc]]) w3 = .ok (.round l fn tmps assign body) w3:=hy;have If:=jq g8;clear hy g8 bM rS;gi_wp2_with fail;refine⟨rfl,hR.mono ?_⟩;rintro e w4 ⟨S4,bJ,CC,Kn,(⟨rfl,Jr⟩ | ⟨rfl,Jt⟩)⟩
    ·have bi:Hid (dI Dr w w4):=jq (aw.out.round bJ (λk e hd=>by
      rcases bR k e with e | e
      ·exact hS k e hd
      ·have:=(HW.out.2 k hd).1;omega))
     have fz:=bJ.size;clear bJ oK hR;gi_wp2_with fail;go_roundw
     case rel=>
      refine⟨k+1,S4,by omega,by go_num,by rw[HT.out,HX.out];exact Jr,Kn,λk e=>?_,bi,by omega⟩;rcases CC k e with e | e
      ·exact bR k e
      ·right;omega
     case measure=>simp[intOf]<;>omega
    ·have fz:=bJ.size;clear bJ oK hR;gi_wp2_with fail;refine bodyPost_ret (results_none rfl _ _ _) rfl ?_;refine⟨⟨_,rfl⟩,.inr ⟨_,S4,If.out,Jt,λk e=>?_⟩⟩;rcases CC k e with e | e
     ·exact bR k e
     ·right;omega
  ·have gm:Hid (L.take k=L):=jq (kQ (by rw[jz.out];omega));rw[gm.out] at hj;gi_wp2_with fail;go_end0;exact⟨⟨_,rfl⟩,.inl ⟨S1,hj,bR⟩⟩
end
section
open Go.RowKit
theorem ZB:∀ args w,(callFunc 70 args).run prog w = .ok (.enter 70 args) w:=enters_of func70 (by kernel_rfl) rfl
theorem ZD:∀ args w,(callFunc 138 args).run prog w = .ok (.enter 138 args) w:=enters_of func138 (by kernel_rfl) rfl
theorem ZE:∀ args w,(callFunc 107 args).run prog w = .ok (.enter 107 args) w:=enters_of func107 (by kernel_rfl) rfl
theorem ZF:∀ args w,(callFunc 108 args).run prog w = .ok (.enter 108 args) w:=enters_of func108 (by kernel_rfl) rfl
theorem I1:∀ args w,(callFunc 141 args).run prog w = .ok (.enter 141 args) w:=enters_of func141 (by kernel_rfl) rfl
theorem Yw(h f u:Int)(s:ByteArray)(v:Value)(A:Option Addr)(n c:Nat)(hv:v = .slice A n c)(bt:Nat)(t:Int)(w:World)(hb:bt<w.heap.size)(ht:w.cell? ⟨bt,0,none⟩=some (.int .i64 t)) :
 Calls prog 70 #[.agg #[.int .i64 h,.int .i64 f,.int .i64 u,.string s,v],.pointer (some ⟨bt,0,none⟩)] w (ahZ w.heap.size w (.bool (decide (f<=t)&&decide (t<u)))):=by
 subst hv;obtain⟨W1,aB⟩:=afZ (w.alloc (.cells #[.int .i64 h,.int .i64 f,.int .i64 u,.string s,.slice A n c] 46));have av:Below w.heap.size w W1:=by rw[<-aB];exact blAl
 have k1:W1.cell? ⟨w.heap.size,1,none⟩=some (.int .i64 f):=by rw[<-aB];simp[go_sem]
 have k2:W1.cell? ⟨w.heap.size,2,none⟩=some (.int .i64 u):=by rw[<-aB];simp[go_sem]
 have kt:=(av.cell (p:=⟨bt,0,none⟩) hb).trans ht;have HB:=jq av;clear av;go_enter func70,ntmps70;by_cases h1:f<=t
 ·have d1:decide (f<=t)=true:=uQ h1;by_cases h2:t<u
  ·have d2:decide (t<u)=true:=uQ h2;have HD:=jq (And.intro d1 d2);clear h1 h2;go_wp2_with fail;go_ret;exact⟨ag (by rw[HD.out.1,HD.out.2];rfl),HB.out⟩
  ·have d2:decide (t<u)=false:=tQ h2;have HD:=jq (And.intro d1 d2);clear h1 h2;go_wp2_with fail;go_ret;exact⟨ag (by rw[HD.out.1,HD.out.2];rfl),HB.out⟩
 ·have d1:decide (f<=t)=false:=tQ h1;have HD:=jq d1;clear h1;go_wp2_with fail;go_ret;exact⟨ag (by rw[HD.out];rfl),HB.out⟩
theorem aYY(h f u:Int)(s:ByteArray)(v:Value)(A:Option Addr)(n c:Nat)(hv:v = .slice A n c)(bz:Nat)(z:ByteArray)(w:World)(hb:bz<w.heap.size)(ht:w.cell? ⟨bz,0,none⟩=some (.string z)) :
 Calls prog 138 #[.agg #[.int .i64 h,.int .i64 f,.int .i64 u,.string s,v],.pointer (some ⟨bz,0,none⟩)] w (ahZ w.heap.size w (.bool (s.data.toList == z.data.toList))):=by
 subst hv;obtain⟨W1,aB⟩:=afZ (w.alloc (.cells #[.int .i64 h,.int .i64 f,.int .i64 u,.string s,.slice A n c] 46));have av:Below w.heap.size w W1:=by rw[<-aB];exact blAl
 have k1:W1.cell? ⟨w.heap.size,3,none⟩=some (.string s):=by rw[<-aB];simp[go_sem]
 have kt:=(av.cell (p:=⟨bz,0,none⟩) hb).trans ht;have HB:=jq av;obtain⟨q,hq⟩:=afZ (s.toList == z.toList);have HQ:Hid ((s.data.toList == z.data.toList)=q):=jq (by rw[<-hq,dQ,dQ]);clear av;rw[HQ.out];go_enter func138,ntmps138;go_wp2_with fail;go_ret;exact⟨rfl,HB.out⟩
theorem bjJ(s:ByteArray)(a o:Int)(ba:Nat)(addr:Int)(w:World)(hb:ba<w.heap.size)(ht:w.cell? ⟨ba,0,none⟩=some (.int .i64 addr)) :
 Calls prog 107 #[.agg #[.string s,.int .i64 a,.int .i64 o],.pointer (some ⟨ba,0,none⟩)] w (ahZ w.heap.size w (.bool (decide (a=addr)))):=by
 obtain⟨W1,aB⟩:=afZ (w.alloc (.cells #[.string s,.int .i64 a,.int .i64 o] 101));have av:Below w.heap.size w W1:=by rw[<-aB];exact blAl
 have k1:W1.cell? ⟨w.heap.size,1,none⟩=some (.int .i64 a):=by rw[<-aB];simp[go_sem]
 have kt:=(av.cell (p:=⟨ba,0,none⟩) hb).trans ht;have HB:=jq av;obtain⟨q,hq⟩:=afZ (a == addr);have HQ:Hid (decide (a=addr)=q):=jq (by rw[<-hq];by_cases h:a=addr<;>simp[h]);clear av;rw[HQ.out];go_enter func107,ntmps107;go_wp2_with fail;go_ret;exact⟨rfl,HB.out⟩
theorem bjK(h f u:Int)(s:ByteArray)(v:Value)(A:Option Addr)(n c:Nat)(hv:v = .slice A n c)(bh bz:Nat)(kk:Int)(z:ByteArray)(w:World)(mx:bh<w.heap.size)(eS:bz<w.heap.size)(KL:w.cell? ⟨bh,0,none⟩=some (.int .i64 kk))(CH:w.cell? ⟨bz,0,none⟩=some (.string z)) :
 Calls prog 108 #[.agg #[.int .i64 h,.int .i64 f,.int .i64 u,.string s,v],.pointer (some ⟨bh,0,none⟩),.pointer (some ⟨bz,0,none⟩)] w (ahZ w.heap.size w (.bool (decide (h=kk)&&(s.data.toList == z.data.toList)))):=by
 subst hv;obtain⟨W1,aB⟩:=afZ (w.alloc (.cells #[.int .i64 h,.int .i64 f,.int .i64 u,.string s,.slice A n c] 46));have av:Below w.heap.size w W1:=by rw[<-aB];exact blAl
 have k0:W1.cell? ⟨w.heap.size,0,none⟩=some (.int .i64 h):=by rw[<-aB];simp[go_sem]
 have k1:W1.cell? ⟨w.heap.size,3,none⟩=some (.string s):=by rw[<-aB];simp[go_sem]
 have kh:=(av.cell (p:=⟨bh,0,none⟩) mx).trans KL;have kt:=(av.cell (p:=⟨bz,0,none⟩) eS).trans CH;have HB:=jq av;obtain⟨q,hq⟩:=afZ (s.toList == z.toList);have HQ:Hid ((s.data.toList == z.data.toList)=q):=jq (by rw[<-hq,dQ,dQ]);clear av;rw[HQ.out];go_enter func108,ntmps108;by_cases h1:h=kk
 ·have e1:(h == kk)=true:=by simpa using h1
  have HD:=jq (uQ h1);clear h1;go_wp2_with fail;go_ret;exact⟨ag (by rw[HD.out];rfl),HB.out⟩
 ·have e1:(h == kk)=false:=by simpa using h1
  have HD:=jq (tQ h1);clear h1;go_wp2_with fail;go_ret;exact⟨ag (by rw[HD.out];rfl),HB.out⟩
theorem bD.formL{α:Type}{R:aiQ α}{sz:Nat}{e:TypeId}{base B:Nat}{w:World}{v:Value}{xs:List α}(h:bD R sz e base B w v xs):∃ A c,v = .slice A xs.length c:=by
 obtain⟨rows,_,h2,_⟩:=h;exact oN h2
theorem bD.setLow{α:Type}{R:aiQ α}{sz:Nat}{e:TypeId}{base B:Nat}{w:World}{v:Value}{xs:List α}(h:bD R sz e base B w v xs)(hr:∀ w' r x,R w B r x->R w' B r x){p:Addr}(hp:p.block<base)(u:Value):bD R sz e base B (w.setCell p u) v xs:=by
 obtain⟨rows,h1,h2,h3⟩:=h;exact⟨rows,h1,ownsRow_setCell_below h2 hp u,λi r x hr' hx=>⟨(h3 i r x hr' hx).1,hr _ _ _ (h3 i r x hr' hx).2⟩⟩
theorem bD.sans{α:Type}{R:aiQ α}{sz:Nat}{e:TypeId}{base B:Nat}{w:World}{v:Value}{xs:List α}(h:bD R sz e base B w v xs){M:Nat->Prop}(hM:∀ k,M k->k<base)(hr:∀ r x,R w B r x->R (bG w M) B r x):bD R sz e base B (bG w M) v xs:=by
 obtain⟨rows,h1,h2,h3⟩:=h;exact⟨rows,h1,dS h2 (λg hg=>lD (λhm=>by have:=(h2.lt g hg).1;have:=hM g hm;omega)),λi r x hr' hx=>⟨(h3 i r x hr' hx).1,hr _ _ (h3 i r x hr' hx).2⟩⟩
def Gn(n:Nat)(w:World)(dv sv:Value)(d:List Np.Datum)(g:List Np.Sig):Prop:=∀ M:Nat->Prop,(∀ k,M k->k<n)->SlR ci 3 (bG w M) w.heap.size dv d/\SlR fi 6 (bG w M) w.heap.size sv g
theorem OP(s:ByteArray)(ty life:Int)(dv:Value)(d:List Np.Datum)(sv:Value)(g:List Np.Sig)(ES:d.length<=1000000)(EW:g.length<=1000000)(w:World)(hd:SlR ci 3 w w.heap.size dv d)(hg:SlR fi 6 w w.heap.size sv g) :
 Calls prog 71 #[.agg #[.string s,.int .i64 ty,.int .i64 life,dv,sv]] w λe w'=>∃ dv' sv',e = .returned (.agg #[.string s,.int .i64 ty,.int .i64 life,dv',sv'])/\Gn w.heap.size w' dv' sv' d g/\Below w.heap.size w w':=by
 have HD:=jq hd;have HG:=jq hg;obtain⟨A1,c1,rfl,_,_⟩:=ak hd;obtain⟨A2,c2,rfl,_,_⟩:=ak hg;clear hd hg;obtain⟨n1,bE⟩:=afZ d.length;obtain⟨n2,bS⟩:=afZ g.length;rw[bE] at HD |-;rw[bS] at HG |-;clear bE bS;obtain⟨w1,am⟩:=afZ ((w.alloc (.cells #[.string s,.int .i64 ty,.int .i64 life,.slice A1 n1 c1,.slice A2 n2 c2] 42)).alloc (.cells #[.string ⟨#[]⟩,.int .i64 0,.int .i64 0,.slice none 0 0,.slice none 0 0] 42));have aF:Hid (Below w.heap.size w w1):=jq (by rw[<-am];exact (blAl).alloc (by simp) _);have bF:w1.heap.size=w.heap.size+2:=by rw[<-am];simp
 obtain⟨X,hX⟩:=afZ w.heap.size;obtain⟨Y,hY⟩:=afZ (X+1);obtain⟨k0,k1,k2,k3,k4⟩:=cRow5 w1 X (.string s) (.int .i64 ty) (.int .i64 life) (.slice A1 n1 c1) (.slice A2 n2 c2) (by rw[<-am,<-hX];simp[go_sem]);have kf3:w1.frozen? ⟨X,3,none⟩=false:=by rw[<-am,<-hX];simp[go_sem]
 have kf4:w1.frozen? ⟨X,4,none⟩=false:=by rw[<-am,<-hX];simp[go_sem]
 have bB:w1.heap[Y]?=some (.cells #[.string ⟨#[]⟩,.int .i64 0,.int .i64 0,.slice none 0 0,.slice none 0 0] 42):=by
  rw[<-am,<-hY,<-hX]
  have:=heap_alloc_new (w.alloc (.cells #[.string s,.int .i64 ty,.int .i64 life,.slice A1 n1 c1,.slice A2 n2 c2] 42)) (.cells #[.string ⟨#[]⟩,.int .i64 0,.int .i64 0,.slice none 0 0,.slice none 0 0] 42)
  simpa using this
 have lO:=jq hX;go_enter func71,ntmps71;go_wp2_with fail;rw[hX] at HD HG aF bF;clear am hX;refine (IU _ d ES _ ((HD.out.keep cJ aF.out).more di (by omega))).mono ?_;rintro e w2 ⟨v2,rfl,l5,aa⟩;have aO:=aa.size;replace k0:=aeK aa k0;replace k1:=aeK aa k1;replace k2:=aeK aa k2;replace k3:=aeK aa k3;replace k4:=aeK aa k4;replace kf3:=(aa.frozen (p:=⟨X,3,none⟩) (by dsimp only;omega)).trans kf3;replace kf4:=(aa.frozen (p:=⟨X,4,none⟩) (by dsimp only;omega)).trans kf4;replace bB:=(aa.block Y (by omega)).trans bB;have bH:=jq l5;have ah:=aeX aF aa;obtain⟨A3,c3,rfl⟩:=l5.formL;clear l5 aa;obtain⟨n3,cR⟩:=afZ d.length;rw[cR] at bH |-;obtain⟨w3,eF⟩:=afZ (w2.setCell ⟨X,3,none⟩ (.slice A3 n3 c3));have dR:w3.heap.size=w2.heap.size:=by rw[<-eF];simp
 have aw:Hid (Below X w w3):=jq (by rw[<-eF];exact ah.out.setCell (bQ _) _);have lL:Hid (bD ci 3 128 w1.heap.size w1.heap.size w3 (.slice A3 n3 c3) d):=jq (by rw[<-eF];exact bH.out.setLow (λ_ _ _ h=>h) (by dsimp only;omega) _);have j0:w3.cell? ⟨X,0,none⟩=some (.string s):=by rw[<-eF];exact (xQ _ _ _ _ (by simp)).trans k0
 have j1:w3.cell? ⟨X,1,none⟩=some (.int .i64 ty):=by rw[<-eF];exact (xQ _ _ _ _ (by simp)).trans k1
 have j2:w3.cell? ⟨X,2,none⟩=some (.int .i64 life):=by rw[<-eF];exact (xQ _ _ _ _ (by simp)).trans k2
 have j3:w3.cell? ⟨X,3,none⟩=some (.slice A3 n3 c3):=by rw[<-eF];exact World.cell?_setCell_same _ _ _ k3
 have j4:w3.cell? ⟨X,4,none⟩=some (.slice A2 n2 c2):=by rw[<-eF];exact (xQ _ _ _ _ (by simp)).trans k4
 have jf4:w3.frozen? ⟨X,4,none⟩=false:=by rw[<-eF];exact (World.frozen?_setCell _ _ _ _).trans kf4
 have jobj:=(wQ w2 ⟨X,3,none⟩ (.slice A3 n3 c3) Y (by dsimp only;omega)).trans bB;rw[eF] at jobj;go_wp2_with fail;clear eF k0 k1 k2 k3 k4 kf3 kf4 bB;refine (OO _ g EW _ ((HG.out.keep eL aw.out).more fJ (by omega))).mono ?_;rintro e w4 ⟨v4,rfl,jP,ar⟩;have fz:=ar.size;replace j0:=aeK ar j0;replace j1:=aeK ar j1;replace j2:=aeK ar j2;replace j3:=aeK ar j3;replace j4:=aeK ar j4;replace jf4:=(ar.frozen (p:=⟨X,4,none⟩) (by dsimp only;omega)).trans jf4;replace jobj:=(ar.block Y (by omega)).trans jobj;have yi:=jq jP;have WC:=jq (lL.out.keep cJ ar (by omega));have bi:=aeX aw ar;obtain⟨A4,c4,rfl⟩:=jP.formL;clear jP ar;obtain⟨n4,cX⟩:=afZ g.length;rw[cX] at yi |-;obtain⟨w5,aK⟩:=afZ (w4.setCell ⟨X,4,none⟩ (.slice A4 n4 c4));have lB:w5.heap.size=w4.heap.size:=by rw[<-aK];simp
 have cg:Hid (Below X w w5):=jq (by rw[<-aK];exact bi.out.setCell (bQ _) _);have rA:Hid (bD fi 6 50 w3.heap.size w3.heap.size w5 (.slice A4 n4 c4) g):=jq (by rw[<-aK];exact yi.out.setLow (λ_ _ _ h=>h) (by dsimp only;omega) _);have yl:Hid (bD ci 3 128 w1.heap.size w1.heap.size w5 (.slice A3 n3 c3) d):=jq (by rw[<-aK];exact WC.out.setLow (λ_ _ _ h=>h) (by dsimp only;omega) _);have m0:w5.cell? ⟨X,0,none⟩=some (.string s):=by rw[<-aK];exact (xQ _ _ _ _ (by simp)).trans j0
 have m1:w5.cell? ⟨X,1,none⟩=some (.int .i64 ty):=by rw[<-aK];exact (xQ _ _ _ _ (by simp)).trans j1
 have m2:w5.cell? ⟨X,2,none⟩=some (.int .i64 life):=by rw[<-aK];exact (xQ _ _ _ _ (by simp)).trans j2
 have m3:w5.cell? ⟨X,3,none⟩=some (.slice A3 n3 c3):=by rw[<-aK];exact (xQ _ _ _ _ (by simp)).trans j3
 have m4:w5.cell? ⟨X,4,none⟩=some (.slice A4 n4 c4):=by rw[<-aK];exact World.cell?_setCell_same _ _ _ j4
 have mobj:=(wQ w4 ⟨X,4,none⟩ (.slice A4 n4 c4) Y (by dsimp only;omega)).trans jobj;rw[aK] at mobj;have y0:w5.cell? ⟨Y,0,none⟩=some (.string ⟨#[]⟩):=by simp[World.cell?,mobj]
 have z0:w5.frozen? ⟨Y,0,none⟩=false:=by simp[World.frozen?,mobj]
 have y1:w5.cell? ⟨Y,1,none⟩=some (.int .i64 0):=by simp[World.cell?,mobj]
 have z1:w5.frozen? ⟨Y,1,none⟩=false:=by simp[World.frozen?,mobj]
 have y2:w5.cell? ⟨Y,2,none⟩=some (.int .i64 0):=by simp[World.cell?,mobj]
 have z2:w5.frozen? ⟨Y,2,none⟩=false:=by simp[World.frozen?,mobj]
 have y3:w5.cell? ⟨Y,3,none⟩=some (.slice none 0 0):=by simp[World.cell?,mobj]
 have z3:w5.frozen? ⟨Y,3,none⟩=false:=by simp[World.frozen?,mobj]
 have y4:w5.cell? ⟨Y,4,none⟩=some (.slice none 0 0):=by simp[World.cell?,mobj]
 have z4:w5.frozen? ⟨Y,4,none⟩=false:=by simp[World.frozen?,mobj]
 go_wp2_with fail;obtain⟨W,hW⟩:=afZ (((((w5.setCell ⟨Y,0,none⟩ (.string s)).setCell ⟨Y,1,none⟩ (.int .i64 ty)).setCell ⟨Y,2,none⟩ (.int .i64 life)).setCell ⟨Y,3,none⟩ (.slice A3 n3 c3)).setCell ⟨Y,4,none⟩ (.slice A4 n4 c4));have qA:Hid (bD ci 3 128 w1.heap.size w1.heap.size W (.slice A3 n3 c3) d):=jq (by rw[<-hW];exact (((((yl.out.setLow (λ_ _ _ h=>h) (by dsimp only;omega) _).setLow (λ_ _ _ h=>h) (by dsimp only;omega) _).setLow (λ_ _ _ h=>h) (by dsimp only;omega) _).setLow (λ_ _ _ h=>h) (by dsimp only;omega) _).setLow (λ_ _ _ h=>h) (by dsimp only;omega) _));have eu:Hid (bD fi 6 50 w3.heap.size w3.heap.size W (.slice A4 n4 c4) g):=jq (by rw[<-hW];exact (((((rA.out.setLow (λ_ _ _ h=>h) (by dsimp only;omega) _).setLow (λ_ _ _ h=>h) (by dsimp only;omega) _).setLow (λ_ _ _ h=>h) (by dsimp only;omega) _).setLow (λ_ _ _ h=>h) (by dsimp only;omega) _).setLow (λ_ _ _ h=>h) (by dsimp only;omega) _));have aS:Hid (Below X w W):=jq (by rw[<-hW];exact (((((cg.out.blSe _).blSe _).blSe _).blSe _).blSe _));have p7:W.heap.size=w5.heap.size:=by rw[<-hW];simp
 have e0:W.cell? ⟨Y,0,none⟩=some (.string s):=by rw[<-hW];simp[go_sem,y0]
 have e1:W.cell? ⟨Y,1,none⟩=some (.int .i64 ty):=by rw[<-hW];simp[go_sem,y1]
 have e2:W.cell? ⟨Y,2,none⟩=some (.int .i64 life):=by rw[<-hW];simp[go_sem,y2]
 have e3:W.cell? ⟨Y,3,none⟩=some (.slice A3 n3 c3):=by rw[<-hW];simp[go_sem,y3]
 have e4:W.cell? ⟨Y,4,none⟩=some (.slice A4 n4 c4):=by rw[<-hW];simp[go_sem,y4]
 rw[hW];refine bodyPost_ret (v:=.agg #[.string s,.int .i64 ty,.int .i64 life,.slice A3 n3 c3,.slice A4 n4 c4]) ?_ rfl ⟨_,_,rfl,λM hM=>?_,by rw[lO.out];exact aS.out⟩
 ·simp[results,results71,go_sem,e0,e1,e2,e3,e4]
 ·have h1:=(qA.out.sans (M:=M) (λk hk=>by have:=hM k hk;have:=lO.out;omega) (λ_ _ h=>h)).slr di (by rw[gj];omega) (by omega);have h2:=(eu.out.sans (M:=M) (λk hk=>by have:=hM k hk;have:=lO.out;omega) (λ_ _ h=>h)).slr fJ (by rw[gj];omega) (by omega);rw[gj] at h1 h2;exact⟨h1,h2⟩
theorem EZ(e:List Value)(h:Np.Hist)(hf:Np.tc h)(w:World)(hR:gq w w.heap.size)(hh:ik w w.heap.size e h) :
 Calls prog 56 #[.agg e.toArray] w (ahZ w.heap.size w (.bool (Np.yes (Np.VHist h)))):=by
 obtain⟨hv,cv,s,dv,cU,rfl,h1,h2,h3,h4,h5,h6⟩:=hh;obtain⟨hosts,copies,⟨name,ty,life,data⟩,hints,drift,stop⟩:=h;dsimp only at h1 h3 h4 h5 h6;subst h1;exact Qv _ hosts _ copies s h2 ty life _ data _ hints drift stop hf.1 hf.2 _ hR h3 h4 h5 h6
def Np.oY(l:List Np.Signed):Prop:=l.length<=100/\∀ x∈l,x.set.data.length<=20/\x.sigs.length<=20
theorem Z9(a:ByteArray)(v:Value)(l:List Np.Signed)(w:World)(hd:SlR br 5 w w.heap.size v l) :
 Calls prog 72 #[.agg #[.string a,v]] w λe w'=>e = .returned (.bool (Np.yes (Np.oY l)))/\Below w.heap.size w w':=by
 obtain⟨r,hr⟩:=afZ (Np.yes (Np.oY l));rw[hr];have HR:=jq hr;have HD:=jq hd;obtain⟨A,c,rfl,bw,bT⟩:=ak hd;clear hr hd;obtain⟨X,hX⟩:=afZ w.heap.size;obtain⟨n,hn⟩:=afZ l.length;rw[hn] at HD bw bT |-;have gk:=jq hn;clear hn;obtain⟨W1,aB⟩:=afZ (w.alloc (.cells #[.string a,.slice A n c] 44));have aM:Below w.heap.size w W1:=by rw[<-aB];exact blAl
 have jS:W1.heap.size=w.heap.size+1:=by rw[<-aB];simp
 have k1:W1.cell? ⟨X,1,none⟩=some (.slice A n c):=by rw[<-aB,<-hX];simp[go_sem]
 rw[hX] at aM jS HD |-;have aS:=jq aM;clear aM;go_enter func72,ntmps72;go_wp2_with fail;clear aB hX;go_loopw [3] (λi wr=>∃ (k:Nat),k<=n/\k<=101/\i = .int .i64 k/\Hid (Below (X+1) W1 wr)/\Hid (∀ x∈l.take k,x.set.data.length<=20/\x.sigs.length<=20)) (λi _=>n - (intOf i).toNat)
 case atStart=>exact⟨0,jQ _,jQ _,rfl,jq (vQ _ _),jq (by simp)⟩
 case round=>
  obtain⟨k,hk,bHX,rfl,bp,HQ⟩:=hrel;have HB:=aeX aS bp.out;have q1:=aeK bp.out k1;have ay:=bp.out.size;by_cases ab:k<n
  ·by_cases byK:k<=100
   ·have anY:decide ((k:Int)<=100)=true:=agQ;obtain⟨x,ae⟩:∃ x,l[k]?=some x:=⟨_,aQ (by rw[gk.out];exact ab)⟩;obtain⟨b,o,c',sn,dv,sv,hA,bZ,_,aD,cu,aY,aN,f0,f1,f2,f3,f4⟩:=dB (HD.out.keep aP HB.out) ae
    cases hA
    obtain⟨Ad,cd,rfl,_,_⟩:=ak aY;obtain⟨As,cs,rfl,_,_⟩:=ak aN;obtain⟨nd,sw⟩:=afZ x.set.data.length;obtain⟨ns,E7⟩:=afZ x.sigs.length;rw[sw] at f3;rw[E7] at f4;have HF:Hid (¬ (nd<=20/\ns<=20)->r=false):=jq (λh=>by
     rw[<-HR.out,<-sw,<-E7] at *;exact Np.aR λq=>h (q.2 x (gQ ae)))
    have vq:Hid (nd<=20/\ns<=20->∀ x∈l.take (k+1),x.set.data.length<=20/\x.sigs.length<=20):=jq (λh y hy=>by
     obtain⟨hl,he⟩:=cQ.1 ae;rw[fQ hl,he] at hy;rcases List.mem_append.1 hy with hy | hy
     ·exact HQ.out y hy
     ·rw[List.mem_singleton] at hy;subst hy;rw[sw,E7];exact h)
    clear ae aD aY aN sw E7;by_cases g1:20<nd
    ·have d1:decide (20<(nd:Int))=true:=agQ;have HX:=jq (HF.out (by omega));clear g1;go_wp2_with fail;go_ret;exact⟨ag HX.out.symm,HB.out⟩
    ·have d1:decide (20<(nd:Int))=false:=afY;by_cases g2:20<ns
     ·have d2:decide (20<(ns:Int))=true:=agQ;have HX:=jq (HF.out (by omega));clear g1 g2;go_wp2_with fail;go_ret;exact⟨ag HX.out.symm,HB.out⟩
     ·have d2:decide (20<(ns:Int))=false:=afY;have HX:=jq (vq.out (by omega));clear g1 g2;go_wp2_with fail;go_roundw
      case rel=>exact⟨k+1,by omega,by omega,by go_num,bp,HX⟩
      ·simp[intOf]<;>omega
   ·have anY:decide ((k:Int)<=100)=false:=afY;have jK:decide ((n:Int)<=100)=false:=afY;have HX:Hid (r=false):=jq (by rw[<-HR.out];exact Np.aR λq=>by have:=q.1;rw[gk.out] at this;omega);go_wp2_with fail;go_ret;exact⟨ag HX.out.symm,HB.out⟩
  ·have WQ:Hid (∀ x∈l,x.set.data.length<=20/\x.sigs.length<=20):=jq (by have:=HQ.out;rwa [kQ (by rw[gk.out];omega)] at this);by_cases auY:n<=100
   ·have jK:decide ((n:Int)<=100)=true:=agQ;have HX:Hid (r=true):=jq (by rw[<-HR.out];exact Np.bV ⟨by rw[gk.out];exact auY,WQ.out⟩);go_wp2_with fail;go_ret;exact⟨ag HX.out.symm,HB.out⟩
   ·have jK:decide ((n:Int)<=100)=false:=afY;have HX:Hid (r=false):=jq (by rw[<-HR.out];exact Np.aR λq=>by have:=q.1;rw[gk.out] at this;omega);go_wp2_with fail;go_ret;exact⟨ag HX.out.symm,HB.out⟩
def Np.qk(h:Np.Hist):Prop:=(h.copies.length<=20/\h.hosts.length<=70/\h.hints.length<=20/\h.anchor.data.length<=20)/\(∀ c∈h.copies,Np.oY c.zone.sets/\c.zone.apex.length<=100)/\∀ x∈h.hosts,x.name.length<=100
theorem Z8(e:List Value)(h:Np.Hist)(w:World)(hh:ik w w.heap.size e h) :
 Calls prog 26 #[.agg e.toArray] w λe w'=>e = .returned (.bool (Np.yes (Np.qk h)))/\Below w.heap.size w w':=by
 obtain⟨hv,cv,s,dv,cU,rfl,_,_,h3,h4,h5',h6⟩:=hh;obtain⟨hosts,copies,⟨name,ty,life,data⟩,hints,drift,stop⟩:=h;dsimp only at h3 h4 h5' h6 |-;have HD:=jq h4;have HH:=jq h3;obtain⟨A1,c1,rfl,_,_⟩:=ak h3;obtain⟨A2,c2,rfl,_,_⟩:=ak h4;obtain⟨A3,c3,rfl,_,_⟩:=ak h5';obtain⟨A4,c4,rfl,_,_⟩:=ak h6;clear h3 h4 h5' h6;obtain⟨n1,bE⟩:=afZ hosts.length;obtain⟨n2,bS⟩:=afZ copies.length;obtain⟨n3,cR⟩:=afZ data.length;obtain⟨n4,cX⟩:=afZ hints.length;rw[bE,bS,cR,cX];rw[bS] at HD;rw[bE] at HH;have ii:=jq bE;have tq:=jq cR;have vf:=jq cX;have gk:=jq bS;clear bE bS cR cX;obtain⟨r,hr⟩:=afZ (Np.yes (Np.qk ⟨hosts,copies,⟨name,ty,life,data⟩,hints,drift,stop⟩));rw[hr];have HR:=jq hr;have rq:Hid (Np.qk ⟨hosts,copies,⟨name,ty,life,data⟩,hints,drift,stop⟩↔(n2<=20/\n1<=70/\n4<=20/\n3<=20)/\(∀ c∈copies,Np.oY c.zone.sets/\c.zone.apex.length<=100)/\∀ h∈hosts,h.name.length<=100):=jq (by unfold Np.qk;dsimp only;rw[gk.out,ii.out,tq.out,vf.out]);clear hr;obtain⟨X,hX⟩:=afZ w.heap.size;have lO:=jq hX;obtain⟨W1,aB⟩:=afZ (w.alloc (.cells #[.slice A1 n1 c1,.slice A2 n2 c2,.string s,.int .i64 ty,.int .i64 life,.slice A3 n3 c3,.slice A4 n4 c4,.int .i64 drift,.int .i64 stop] 29));have aM:Below w.heap.size w W1:=by rw[<-aB];exact blAl
 have jS:W1.heap.size=w.heap.size+1:=by rw[<-aB];simp
 have k0:W1.cell? ⟨X,0,none⟩=some (.slice A1 n1 c1):=by rw[<-aB,<-hX];simp[go_sem]
 have k5:W1.cell? ⟨X,5,none⟩=some (.slice A3 n3 c3):=by rw[<-aB,<-hX];simp[go_sem]
 have k6:W1.cell? ⟨X,6,none⟩=some (.slice A4 n4 c4):=by rw[<-aB,<-hX];simp[go_sem]
 have k1:W1.cell? ⟨X,1,none⟩=some (.slice A2 n2 c2):=by rw[<-aB,<-hX];simp[go_sem]
 rw[hX] at aM jS HD HH |-;have aS:=jq aM;clear aM;go_enter func26,ntmps26;go_wp2_with fail;clear aB hX;go_loopw [3] (λi wr=>∃ (k:Nat),k<=n2/\k<=21/\i = .int .i64 k/\Hid (Below (X+1) W1 wr)/\Hid (∀ c∈copies.take k,Np.oY c.zone.sets/\c.zone.apex.length<=100)) (λi _=>n2 - (intOf i).toNat)
 case atStart=>exact⟨0,jQ _,jQ _,rfl,jq (vQ _ _),jq (by simp)⟩
 case round=>
  obtain⟨k,hk,bHY,rfl,bp,HQ⟩:=hrel;have HB:=aeX aS bp.out;have ay:=bp.out.size;have q0:=aeK bp.out k0;have q1:=aeK bp.out k1;have q5:=aeK bp.out k5;have q6:=aeK bp.out k6;by_cases jL:k<n2/\k<=20
  ·obtain⟨ab,bY⟩:=jL;have bFJ:decide ((k:Int)<=20)=true:=agQ;obtain⟨x,ae⟩:∃ x,copies[k]?=some x:=⟨_,aQ (by rw[gk.out];exact ab)⟩;obtain⟨b,o,sn,vz,rfl,bZ,aD,cu,dg,f0,f1,f2,f3,f4⟩:=vJ (HD.out.keep mg HB.out) ae;have aZ:Hid (x.zone.apex.length=sn.size):=jq (by rw[<-aD,bj]);have gD:Hid (SlR br 5 wr wr.heap.size vz x.zone.sets):=jq (dg.more bK (by omega));obtain⟨rz,fu⟩:=afZ (Np.yes (Np.oY x.zone.sets));have gR:=jq fu;have HF:Hid (¬ (Np.oY x.zone.sets/\x.zone.apex.length<=100)->r=false):=jq (λh=>by
    rw[<-HR.out];exact Np.aR λq=>h ((rq.out.1 q).2.1 x (gQ ae)))
   have vq:Hid (Np.oY x.zone.sets/\x.zone.apex.length<=100->∀ c∈copies.take (k+1),Np.oY c.zone.sets/\c.zone.apex.length<=100):=jq (λh y hy=>by
    obtain⟨hl,he⟩:=cQ.1 ae;rw[fQ hl,he] at hy;rcases List.mem_append.1 hy with hy | hy
    ·exact HQ.out y hy
    ·rw[List.mem_singleton] at hy;subst hy;exact h)
   obtain⟨Az,cz,rfl,_,_⟩:=ak dg;obtain⟨nz,jh⟩:=afZ x.zone.sets.length;rw[jh] at f4 gD;clear ae aD dg jh fu;go_wp2_with fail;refine (Z9 sn _ x.zone.sets _ gD.out).mono ?_;rintro e w3 ⟨rfl,ai⟩;have dR:=ai.size;have g3:=aeK ai f3;have g1:=aeK ai q1;have aw:=aeX HB ai;have GH:=aeX bp ai;clear ai;rw[gR.out]
   cases rz with
   | false=>
    have HX:=jq (HF.out (λh=>by have:=Np.bV h.1;rw[gR.out] at this;cases this));go_wp2_with fail;go_ret;exact⟨ag HX.out.symm,aw.out⟩
   | true=>
    by_cases hs:100<sn.size
    ·have d2:decide (100<(sn.size:Int))=true:=agQ;have HX:=jq (HF.out (λh=>by have:=h.2;rw[aZ.out] at this;omega));clear hs;go_wp2_with fail;go_ret;exact⟨ag HX.out.symm,aw.out⟩
    ·have d2:decide (100<(sn.size:Int))=false:=afY;have HX:=jq (vq.out ⟨Np.eZ.1 gR.out,by rw[aZ.out];omega⟩);clear hs;go_wp2_with fail;go_roundw
     case rel=>exact⟨k+1,by omega,by omega,by go_num,jq GH.out,HX⟩
     ·simp[intOf]<;>omega
  ·have nr:(decide ((k:Int)<(n2:Int))=false)\/(decide ((k:Int)<(n2:Int))=true/\decide ((k:Int)<=20)=false):=by
    by_cases h1:k<n2
    ·exact .inr ⟨agQ,afY⟩
    ·exact .inl (afY)
   have kN:Hid (n2<=20->∀ c∈copies,Np.oY c.zone.sets/\c.zone.apex.length<=100):=jq (λh=>by
    have:=HQ.out
    rwa [kQ (by rw[gk.out];omega)] at this)
   obtain⟨wo,rfl⟩:=afJ wr;clear nr;have JT:k<n2->decide ((k:Int)<=20)=false:=λh=>afY;by_cases nB:k<n2
   ·have dE:=JT nB;clear jL JT;go_wp2_with fail;go_loopw [4] (λi wi=>∃ (j:Nat),j<=n1/\j<=71/\i = .int .i64 j/\Hid (Below wo.heap.size wo wi)/\Hid (∀ x∈hosts.take j,x.name.length<=100)) (λi _=>n1 - (intOf i).toNat)
    case atStart=>exact⟨0,jQ _,jQ _,rfl,jq (vQ _ _),jq (by simp)⟩
    case round=>
     obtain⟨j,hj,asX,rfl,cB,HP⟩:=hrel;have jY:=aeX HB cB.out;have sP:=cB.out.size;have u0:=aeK cB.out q0;have u1:=aeK cB.out q1;have u5:=aeK cB.out q5;have u6:=aeK cB.out q6;by_cases jL:j<n1/\j<=70
     ·obtain⟨ab,h70⟩:=jL;have aoZ:decide ((j:Int)<=70)=true:=agQ;obtain⟨x,ae⟩:∃ x,hosts[j]?=some x:=⟨_,aQ (by rw[ii.out];exact ab)⟩;obtain⟨b,o,sn,rfl,bZ,aD,cu,f0,f1,f2⟩:=zf (HH.out.keep gy jY.out) ae;have aZ:Hid (x.name.length=sn.size):=jq (by rw[<-aD,bj]);have HF:Hid (¬ x.name.length<=100->r=false):=jq (λh=>by
       rw[<-HR.out];exact Np.aR λq=>h ((rq.out.1 q).2.2 x (gQ ae)))
      have vl:Hid (x.name.length<=100->∀ c∈hosts.take (j+1),c.name.length<=100):=jq (λh y hy=>by
       obtain⟨hl,he⟩:=cQ.1 ae;rw[fQ hl,he] at hy;rcases List.mem_append.1 hy with hy | hy
       ·exact HP.out y hy
       ·rw[List.mem_singleton] at hy;subst hy;exact h)
      clear ae aD;by_cases hs:100<sn.size
      ·have d2:decide (100<(sn.size:Int))=true:=agQ;have HX:=jq (HF.out (λh=>by rw[aZ.out] at h;omega));clear hs;go_wp2_with fail;go_ret;exact⟨ag HX.out.symm,jY.out⟩
      ·have d2:decide (100<(sn.size:Int))=false:=afY;have HX:=jq (vl.out (by rw[aZ.out];omega));clear hs;go_wp2_with fail;go_roundw
       case rel=>exact⟨j+1,by omega,by omega,by go_num,cB,HX⟩
       ·simp[intOf]<;>omega
     ·have wF:j<n1->decide ((j:Int)<=70)=false:=λh=>afY;have G4:Hid (n1<=70->∀ x∈hosts,x.name.length<=100):=jq (λh=>by
       have:=HP.out
       rwa [kQ (by rw[ii.out];omega)] at this)
      have wP:(20<n2\/70<n1\/20<n4\/20<n3)->r=false:=λh=>by rw[<-HR.out];exact Np.aR λq=>by have:=(rq.out.1 q).1;omega
      have Ia:=jq wP;have AZ:Hid (n2<=20/\n1<=70/\n4<=20/\n3<=20->r=true):=jq (λh=>by rw[<-HR.out];exact Np.bV (rq.out.2 ⟨h,kN.out h.1,G4.out h.2.1⟩));clear jL wP;have be:∃ c1 c2 c3 c4:Bool,decide ((n2:Int)<=20)=c1/\decide ((n1:Int)<=70)=c2/\decide ((n4:Int)<=20)=c3/\decide ((n3:Int)<=20)=c4/\Hid (r=(c1&&c2&&c3&&c4)):=by
       refine⟨_,_,_,_,rfl,rfl,rfl,rfl,jq ?_⟩;by_cases h:n2<=20/\n1<=70/\n4<=20/\n3<=20
       ·rw[AZ.out h,agQ,agQ,agQ,uQ (by omega)];rfl
       ·rw[Ia.out (by omega)]
        symm
        rw[Bool.eq_false_iff];intro hb;simp only[Bool.and_eq_true,Qa] at hb;omega
      obtain⟨c1',c2',c3',c4',e1,e2,e3,e4,tr⟩:=be;by_cases qS:j<n1
      ·have lk:=wF qS;clear wF
       cases c1'<;>cases c2'<;>cases c3'<;>cases c4'
       all_goals
        go_wp2_with fail;go_ret;exact⟨ag tr.out.symm,jY.out⟩
      ·have lk:=qS;clear wF
       cases c1'<;>cases c2'<;>cases c3'<;>cases c4'
       all_goals
        go_wp2_with fail;go_ret;exact⟨ag tr.out.symm,jY.out⟩
   ·clear jL JT;go_wp2_with fail;go_loopw [4] (λi wi=>∃ (j:Nat),j<=n1/\j<=71/\i = .int .i64 j/\Hid (Below wo.heap.size wo wi)/\Hid (∀ x∈hosts.take j,x.name.length<=100)) (λi _=>n1 - (intOf i).toNat)
    case atStart=>exact⟨0,jQ _,jQ _,rfl,jq (vQ _ _),jq (by simp)⟩
    case round=>
     obtain⟨j,hj,asX,rfl,cB,HP⟩:=hrel;have jY:=aeX HB cB.out;have sP:=cB.out.size;have u0:=aeK cB.out q0;have u1:=aeK cB.out q1;have u5:=aeK cB.out q5;have u6:=aeK cB.out q6;by_cases jL:j<n1/\j<=70
     ·obtain⟨ab,h70⟩:=jL;have aoZ:decide ((j:Int)<=70)=true:=agQ;obtain⟨x,ae⟩:∃ x,hosts[j]?=some x:=⟨_,aQ (by rw[ii.out];exact ab)⟩;obtain⟨b,o,sn,rfl,bZ,aD,cu,f0,f1,f2⟩:=zf (HH.out.keep gy jY.out) ae;have aZ:Hid (x.name.length=sn.size):=jq (by rw[<-aD,bj]);have HF:Hid (¬ x.name.length<=100->r=false):=jq (λh=>by
       rw[<-HR.out];exact Np.aR λq=>h ((rq.out.1 q).2.2 x (gQ ae)))
      have vl:Hid (x.name.length<=100->∀ c∈hosts.take (j+1),c.name.length<=100):=jq (λh y hy=>by
       obtain⟨hl,he⟩:=cQ.1 ae;rw[fQ hl,he] at hy;rcases List.mem_append.1 hy with hy | hy
       ·exact HP.out y hy
       ·rw[List.mem_singleton] at hy;subst hy;exact h)
      clear ae aD;by_cases hs:100<sn.size
      ·have d2:decide (100<(sn.size:Int))=true:=agQ;have HX:=jq (HF.out (λh=>by rw[aZ.out] at h;omega));clear hs;go_wp2_with fail;go_ret;exact⟨ag HX.out.symm,jY.out⟩
      ·have d2:decide (100<(sn.size:Int))=false:=afY;have HX:=jq (vl.out (by rw[aZ.out];omega));clear hs;go_wp2_with fail;go_roundw
       case rel=>exact⟨j+1,by omega,by omega,by go_num,cB,HX⟩
       ·simp[intOf]<;>omega
     ·have wF:j<n1->decide ((j:Int)<=70)=false:=λh=>afY;have G4:Hid (n1<=70->∀ x∈hosts,x.name.length<=100):=jq (λh=>by
       have:=HP.out
       rwa [kQ (by rw[ii.out];omega)] at this)
      have wP:(20<n2\/70<n1\/20<n4\/20<n3)->r=false:=λh=>by rw[<-HR.out];exact Np.aR λq=>by have:=(rq.out.1 q).1;omega
      have Ia:=jq wP;have AZ:Hid (n2<=20/\n1<=70/\n4<=20/\n3<=20->r=true):=jq (λh=>by rw[<-HR.out];exact Np.bV (rq.out.2 ⟨h,kN.out h.1,G4.out h.2.1⟩));clear jL wP;have be:∃ c1 c2 c3 c4:Bool,decide ((n2:Int)<=20)=c1/\decide ((n1:Int)<=70)=c2/\decide ((n4:Int)<=20)=c3/\decide ((n3:Int)<=20)=c4/\Hid (r=(c1&&c2&&c3&&c4)):=by
       refine⟨_,_,_,_,rfl,rfl,rfl,rfl,jq ?_⟩;by_cases h:n2<=20/\n1<=70/\n4<=20/\n3<=20
       ·rw[AZ.out h,agQ,agQ,agQ,uQ (by omega)];rfl
       ·rw[Ia.out (by omega)]
        symm
        rw[Bool.eq_false_iff];intro hb;simp only[Bool.and_eq_true,Qa] at hb;omega
      obtain⟨c1',c2',c3',c4',e1,e2,e3,e4,tr⟩:=be;by_cases qS:j<n1
      ·have lk:=wF qS;clear wF
       cases c1'<;>cases c2'<;>cases c3'<;>cases c4'
       all_goals
        go_wp2_with fail;go_ret;exact⟨ag tr.out.symm,jY.out⟩
      ·have lk:=qS;clear wF
       cases c1'<;>cases c2'<;>cases c3'<;>cases c4'
       all_goals
        go_wp2_with fail;go_ret;exact⟨ag tr.out.symm,jY.out⟩
theorem sY{α:Type}(R:aiQ α)(sz:Nat)(w:World)(B:Nat):SlR R sz w B (.slice none 0 0) []:=⟨none,0,rfl,by simp,by simp,λi x hx=>by simp at hx⟩
theorem abJ{sz:Nat}{rows:List (List Value)}(hl:∀ r∈rows,r.length=sz){i j:Nat}{r:List Value}{v:Value}(hi:rows[i]?=some r)(hj:r[j]?=some v):rows.flatten[i * sz+j]?=some v:=by
 induction rows generalizing i with
 | nil=>simp at hi
 | cons y l ih=>
  have hy:=hl y (by simp);rw[List.flatten_cons]
  cases i with
  | zero=>
   simp at hi;subst hi
   have:=(cQ.1 hj).1
   rw[Nat.zero_mul,Nat.zero_add,List.getElem?_append_left (by omega)];exact hj
  | succ i=>
   rw[oQ (by rw[hy,Nat.succ_mul];omega),hy,show (i+1) * sz+j - sz=i * sz+j by rw[Nat.succ_mul];omega];exact ih (λr hr=>hl r (mQ _ hr)) (by simpa using hi)
theorem OK(w:World)(l:List Value)(T:TypeId):cA (w.alloc (.cells l.toArray T)) w.heap.size 0 l:=λj v hj=>by
 have h:=heap_alloc_new w (.cells l.toArray T);unfold World.cell?;rw[h,Nat.zero_add];simpa using hj
theorem Lm{α:Type}{R:aiQ α}{sz:Nat}{w:World}{B b n:Nat}{xs:List α}(rows:List (List Value))(hn:xs.length=n)(hb:b<B)(hs:n<=1000)(hc:cA w b 0 rows.flatten)(hl:∀ r∈rows,r.length=sz)(hr:∀ (i:Nat) (x:α),xs[i]?=some x->∃ r,rows[i]?=some r/\R w B r x):SlR R sz w B (.slice (some ⟨b,0,none⟩) n n) xs:=by
 subst hn;refine⟨_,_,rfl,bQ _,by omega,λi x hx=>?_⟩;obtain⟨r,h1,h2⟩:=hr i x hx;exact⟨b,0,r,rfl,hb,hl r (gQ h1),λj v hj=>by
  have:=hc _ v (abJ hl h1 hj)
  rwa [Nat.zero_add] at this |-,h2⟩
theorem p8{α:Type}{R:aiQ α}{w:World}{B b:Nat}{x:α}(r:List Value)(hb:b<B)(hc:cA w b 0 r)(h:R w B r x):SlR R r.length w B (.slice (some ⟨b,0,none⟩) 1 1) [x]:=
 Lm [r] rfl hb (by omega) (by simpa using hc) (by simp) (λi y hy=>by
  match i,hy with
  | 0,hy=>cases hy;exact⟨_,rfl,h⟩
  | i+1,hy=>simp at hy)
theorem Fx{α:Type}{R:aiQ α}{w:World}{B b:Nat}{x y:α}(r s:List Value)(hl:s.length=r.length)(hb:b<B)(hc:cA w b 0 (r++s))(h:R w B r x)(h2:R w B s y):SlR R r.length w B (.slice (some ⟨b,0,none⟩) 2 2) [x,y]:=
 Lm [r,s] rfl hb (by omega) (by simpa using hc) (by simp[hl]) (λi z hz=>by
  match i,hz with
  | 0,hz=>cases hz;exact⟨_,rfl,h⟩
  | 1,hz=>cases hz;exact⟨_,rfl,h2⟩
  | i+2,hz=>simp at hz)
theorem K4{α:Type}{R:aiQ α}{w:World}{B b:Nat}{x y z:α}(r s t:List Value)(hl:s.length=r.length)(dF:t.length=r.length)(hb:b<B)(hc:cA w b 0 (r++s++t))(h:R w B r x)(h2:R w B s y)(h3:R w B t z):SlR R r.length w B (.slice (some ⟨b,0,none⟩) 3 3) [x,y,z]:=
 Lm [r,s,t] rfl hb (by omega) (by simpa using hc) (by simp[hl,dF]) (λi u hu=>by
  match i,hu with
  | 0,hu=>cases hu;exact⟨_,rfl,h⟩
  | 1,hu=>cases hu;exact⟨_,rfl,h2⟩
  | 2,hu=>cases hu;exact⟨_,rfl,h3⟩
  | i+3,hu=>simp at hu)
theorem cA.off{w:World}{b o:Nat}{e:List Value}(h:cA w b o e){M:Nat->Prop}(hM:¬ M b):cA (bG w M) b o e:=λj v hj=>(iQ (a:=⟨b,o+j,none⟩) (lD hM)).trans (h j v hj)
theorem Ov{α:Type}{R:aiQ α}{sz:Nat}{p:Nat->Prop}{w w':World}{v:Value}{xs:List α}(h:∀ M:Nat->Prop,(∀ k,M k->p k)->SlR R sz (bG w M) w.heap.size v xs)(hk:dl R)(hm:dy R)(hb:Below w.heap.size w w'){M:Nat->Prop}(hM:∀ k,M k->p k\/w.heap.size<=k):SlR R sz (bG w' M) w'.heap.size v xs:=by
 have h1:=h (λk=>M k/\k<w.heap.size) (λk e=>(hM k e.1).resolve_right (by omega));refine (h1.keep hk ?_).more hm hb.size;refine⟨hb.os,hb.tape,hb.output,by rw[gj,gj];exact hb.size,λk hk=>?_⟩;by_cases hm:M k
 ·have h1:k<w'.heap.size:=lQ hk hb.size;rw[xy hm,xy (M:=λk=>M k/\k<w.heap.size) ⟨hm,hk⟩];simp[hk,h1]
 ·rw[lD hm,lD (M:=λk=>M k/\k<w.heap.size) (λe=>hm e.1)];exact hb.block k hk
theorem Ow{α:Type}{R:aiQ α}{sz cb:Nat}{p:Nat->Prop}{w w':World}{v:Value}{xs:List α}(h:∀ M:Nat->Prop,(∀ k,M k->p k)->SlR R sz (bG w M) w.heap.size v xs)(hk:dl R)(hs:eB R)(hm:dy R)(hc:p cb)(ht:Turned cb w w'):SlR R sz w' w'.heap.size v xs:=by
 have h1:=h (λk=>k=cb) (λk e=>e ▸ hc);have h2:=Leaves'.slr (M:=λk=>k=cb) (M':=λk=>k=cb) hk hs hm (w':=w') ⟨ht.os,ht.tape,ht.output,Nat.le_of_eq ht.size.symm,λi _ hi=>⟨hi,ht.block i hi⟩⟩ h1;exact (h2.sans hs (M':=λ_=>False) (λ_ e=>e.elim)).all hs
theorem dx.later{α:Type}{R:aiQ α}{sz n:Nat}{w w':World}{v:Value}{xs:List α}(h:dx R sz 0 n w v xs)(hk:dl R)(hm:dy R)(hb:Below w.heap.size w w'){M:Nat->Prop}(hM:∀ k,M k->k<n\/w.heap.size<=k):SlR R sz (bG w' M) w'.heap.size v xs:=
 Ov h hk hm hb (λk e=>(hM k e).imp (λe=>⟨jQ _,e⟩) id)
theorem dx.keep{α:Type}{R:aiQ α}{sz n:Nat}{w w':World}{v:Value}{xs:List α}(h:dx R sz 0 n w v xs)(hk:dl R)(hm:dy R)(hb:Below w.heap.size w w'):dx R sz 0 n w' v xs:=λ_ hM=>h.later hk hm hb (λk e=>.inl (hM k e).2)
theorem dx.past{α:Type}{R:aiQ α}{sz n cb:Nat}{w w':World}{v:Value}{xs:List α}(h:dx R sz 0 n w v xs)(hk:dl R)(hs:eB R)(hm:dy R)(hc:cb<n)(ht:Turned cb w w'):SlR R sz w' w'.heap.size v xs:=
 Ow h hk hs hm ⟨jQ _,hc⟩ ht
theorem dx.nil{α:Type}(R:aiQ α)(sz n:Nat)(w:World):dx R sz 0 n w (.slice none 0 0) []:=λ_ _=>sY _ _ _ _
theorem dx.form{α:Type}{R:aiQ α}{sz n:Nat}{w:World}{v:Value}{xs:List α}(h:dx R sz 0 n w v xs):∃ A c,v = .slice A xs.length c:=by
 obtain⟨A,c,rfl,_⟩:=ak (h (λ_=>False) (λ_ e=>e.elim));exact⟨_,_,rfl⟩
theorem pw{w w':World}{n:Nat}(l:List Value)(T:TypeId)(hn:w.heap.size=n)(he:w'=w.alloc (.cells l.toArray T)):cA w' n 0 l:=by subst hn;subst he;exact OK w l T
theorem cA.move{w w':World}{b o:Nat}{e:List Value}(h:cA w b o e)(hb:w'.heap[b]?=w.heap[b]?):cA w' b o e:=λj v hj=>(iQ (a:=⟨b,o+j,none⟩) hb).trans (h j v hj)
structure OneAt(n:Nat)(w:World)(b:Nat)(l:List Value):Prop where
 lo:n<=b
 hi:b<w.heap.size
 cells:cA w b 0 l
theorem OneAt.keep{n:Nat}{w w':World}{b:Nat}{l:List Value}(h:OneAt n w b l)(hb:Below w.heap.size w w'):OneAt n w' b l:=⟨h.lo,lQ h.hi hb.size,h.cells.keep hb h.hi⟩
def ic(w:World)(X:Nat)(L:List Value):Prop:=∀ i v,L[i]?=some v->w.cell? ⟨X,i,none⟩=some v
theorem ic.keep{w w':World}{X B:Nat}{L:List Value}(h:ic w X L)(hb:Below B w w')(hX:X<B):ic w' X L:=λi v hi=>(hb.cell (p:=⟨X,i,none⟩) hX).trans (h i v hi)
theorem eb{w w':World}{X:Nat}(l:List Value)(T:TypeId)(hn:w.heap.size=X)(he:w.alloc (.cells l.toArray T)=w'):ic w' X l:=λi v hi=>by
 have:=pw l T hn he.symm i v hi
 rwa [Nat.zero_add] at this
end
section
open Go.RowKit Go.Shelf
attribute [local go_sem] Oper.semAt_some
theorem beY{α:Type}{R:aiQ α}{sz:Nat}{w:World}{B:Nat}{v:Value}{xs:List α}(h:SlR R sz w B v xs):∃ A c,v = .slice A xs.length c/\xs.length<=c/\xs.length<=140737488355328:=by
 obtain⟨A,c,h1,h2,h3,_⟩:=h;exact⟨A,c,h1,h2,h3⟩
theorem xB{α:Type}{R:aiQ α}{sz:Nat}{w:World}{B:Nat}{v:Value}{xs:List α}(h:SlR R sz w B v xs):∃ A n c,v = .slice A n c/\xs.length=n/\n<=c/\n<=140737488355328:=by
 obtain⟨A,c,h1,h2,h3⟩:=beY h;exact⟨A,_,c,h1,rfl,h2,h3⟩
end
end Go.Proofs.YtfnopgdcaanaiaaGreatDoor
