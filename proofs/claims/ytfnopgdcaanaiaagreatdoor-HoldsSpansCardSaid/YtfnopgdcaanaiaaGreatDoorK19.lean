/- Parts of the proof. No condition. -/
import Derived.Laws.OwnMore
import Derived.Test.YtfnopgdcaanaiaaGreatDoorK15
import Derived.Test.YtfnopgdcaanaiaaGreatDoorK16
import Derived.Test.YtfnopgdcaanaiaaGreatDoorK17
set_option linter.all false
set_option maxRecDepth 100000
set_option maxHeartbeats 8000000
namespace Go.Proofs.YtfnopgdcaanaiaaGreatDoor
open Go.Proofs.Tryz
section
open Go.RowKit Go.MapKept
def lT(W:World)(B:Nat)(e:List Value)(p:Np.Placed):Prop:=∃ (s:ByteArray) (v:Value),s.data.toList=p.zone.apex/\s.size<=140737488355328/\SlR bk 5 W B v p.zone.sets/\e = [.int .i64 p.host,.string s,v]
theorem mq:dl lT:=λ_ _ _ _ _ ⟨s,v,h1,h2,h3,h5⟩ hb=>⟨s,v,h1,h2,h3.keep ba hb,h5⟩
theorem mr:dJ lT:=λ_ _ _ _ _ ⟨s,v,h1,h2,h3,h5⟩ hb=>⟨s,v,h1,h2,h3.more bY hb,h5⟩
theorem Qm{w:World}{B n c:Nat}{A:Option Addr}{xs:List Np.Placed}(h:SlR lT 3 w B (.slice A n c) xs){k:Nat}{x:Np.Placed}(hx:xs[k]?=some x):∃ (b o:Nat) (s:ByteArray) (v:Value),A=some ⟨b,o,none⟩/\b<B/\s.data.toList=x.zone.apex/\s.size<=140737488355328/\SlR bk 5 w B v x.zone.sets/\w.cell? ⟨b,o+k * 3,none⟩=some (.int .i64 x.host)/\w.cell? ⟨b,o+k * 3+1,none⟩=some (.string s)/\w.cell? ⟨b,o+k * 3+2,none⟩=some v:=by
 obtain⟨A',c',hA',_,_,bV⟩:=h
 cases hA'
 obtain⟨b,o,e,hA,bC,hlen,hce,s,v,h1,h2,h3,he⟩:=bV k _ hx;subst he;exact⟨b,o,s,v,hA,bC,h1,h2,h3,hce 0 _ rfl,hce 1 _ rfl,hce 2 _ rfl⟩
def jP(r n:Nat)(w:World):Prop:=∃ es c kvs,w.heap[r]?=some (.map es c)/\es.toList.map (λe=>(e.key,e.val))=(kvs:List (List UInt8×Value)).map (λp=>(aD p.1,p.2))/\es.size<=n
theorem jP.lt{r n:Nat}{w:World}(h:jP r n w):r<w.heap.size:=by
 obtain⟨es,c,kvs,h,_⟩:=h;exact (eQ.1 h).1
theorem jP.keep{r k:Nat}{w w':World}{n:Nat}(h:jP r k w)(hb:Below n w w')(hn:r<n):jP r k w':=by
 obtain⟨es,c,kvs,h,h2⟩:=h;exact⟨es,c,kvs,(hb.block r hn).trans h,h2⟩
theorem jP.turned{r k r':Nat}{w w':World}(h:jP r k w)(ht:Turned r' w w')(hne:r≠r'):jP r k w':=by
 obtain⟨es,c,kvs,h,h2⟩:=h;exact⟨es,c,kvs,(ht.block r hne).trans h,h2⟩
theorem jP.made(w:World):jP w.heap.size 0 (w.alloc (.map #[] 0)):=⟨#[],0,[],heap_alloc_new _ _,rfl,bQ _⟩
theorem V8(x:List UInt8):∀ (es:List MapEntry) (kvs:List (List UInt8×Value)) (i:Nat),es.map (λe=>(e.key,e.val))=kvs.map (λp=>(aD p.1,p.2))->
 (∃ j e,es[j]?=some e/\e.key=aD x/\Instr.findNow .string (aD x) es i=some (some (i+j,e.val)))\/Instr.findNow .string (aD x) es i=some none:=by
 intro es
 induction es with
 | nil=>
  intro kvs i h;exact .inr rfl
 | cons e es ih=>
  intro kvs i h
  cases kvs with
  | nil=>simp at h
  | cons p kvs=>
   obtain⟨y,u⟩:=p;simp only[List.map_cons,List.cons.injEq,Prod.mk.injEq] at h;obtain⟨⟨h1,h2⟩,h3⟩:=h;have hs:Instr.sameNow .string (aD x) e.key=some (x == y):=by rw[h1];simp only[Instr.sameNow];rw[Rn]
   by_cases b7:x=y
   ·subst b7;have hb:(x == x)=true:=by simp
    rw[hb] at hs;exact .inl ⟨0,e,rfl,h1,by simp only[Instr.findNow,hs];rfl⟩
   ·have hb:(x == y)=false:=by simpa using b7
    rw[hb] at hs;rcases ih kvs (i+1) h3 with ⟨j,e',j1,j2,j3⟩ | h4
    ·exact .inl ⟨j+1,e',by simpa using j1,j2,by simp only[Instr.findNow,hs];rw[j3,show i+1+j=i+(j+1) by omega]⟩
    ·exact .inr (by simp only[Instr.findNow,hs];exact h4)
theorem ZT(a:ByteArray)(P:Program)(w:World):(Instr.keyThatStays (.string a) (.string a)).run P w = .ok (.string a) w:=by
 have h1:(a == a)=true:=by
  show (a.data == a.data)=true;simp
 have:Instr.sameBits 10000 (.string a) (.string a)=true:=by simp[Instr.sameBits,h1]
 simp[Instr.keyThatStays,this]
section
variable {P:Program} {ops:Array Oper} {rest:List Oper} {o:Oper} {a:Act} {Q:Exit->Act->World->Prop}
theorem aKY(w:World)(hg:o.guard=none)(m x v:Operand)(t:TypeId)(jz:o.op=Op.mapUpdate t m x v)(kt et:TypeId)(ht:P.underlying t=some (.map kt et))(hk:P.underlying kt=some .string)
 (r n:Nat) (hm:a.eval m = .map (some r)) (hr:jP r n w) (key:List UInt8) (hx:a.eval x=aD key) (val:Value) (hv:a.eval v=val)
 (hK:∀ w',jP r (n+1) w'->Turned r w w'->wpList P ops Q rest (a.put o.dst undef) w'):wpList P ops Q (o::rest) a w:=by
 obtain⟨es,c,kvs,hr,he,hn⟩:=hr;refine wpList_plain hg λK' hK'=>?_;have hc:(Instr.checkKey false 10000 kt (aD key)).run P w = .ok () w:=MapKept.run_checkKey (k:=aD key) hk (by simp[MapKept.IsKey]) false 9999;have hl:r<w.heap.size:=(eQ.1 hr).1;rcases V8 key es.toList kvs 0 he with ⟨j,e,j1,j2,hf⟩ | hf
 ·have tA:(Instr.keyThatStays (((es[j]?).map (·.key)).getD (aD key)) (aD key)).run P w = .ok (aD key) w:=by
   rw[Array.getElem?_toList] at j1;rw[j1];simp only[Option.map_some,Option.getD_some];rw[j2];exact ZT _ P w
  rw[Nat.zero_add] at hf;have cU:(Instr.mapUpdate t (.map (some r)) (aD key) val).run P w = .ok () { w with heap:=w.heap.setIfInBounds r (.map (es.modify j λe=>{ e with key:=aD key,val:=val }) c) }:=by
   simp[Instr.mapUpdate,run_underlying ht,MapKept.run_getObj_map hr,hc,MapKept.run_findKey hk hf,tA,MapKept.run_setObj_map _ hr,Result.andThen]
  unfold Oper.wp;simp[execOp,jz,hm,hx,hv,cU,Result.andThen];refine hK' _ _ (hK _ ⟨es.modify j λe=>{ e with key:=aD key,val:=val },c,kvs.modify j λ_=>(key,val),by simp[hl],?_,by simp;omega⟩ ⟨rfl,rfl,rfl,by simp,λi hi=>by simp[Ne.symm hi]⟩);apply List.ext_getElem?;intro i;have hi:=Qd (λl=>l[i]?) he;simp only[List.getElem?_map] at hi |-;rw[Array.toList_modify,List.getElem?_modify,List.getElem?_modify];by_cases dD:j=i
  ·subst dD;simp only[if_true]
   cases h1:es.toList[j]? <;> cases h2:kvs[j]? <;> simp[h1,h2] at hi |-
  ·simp only[Qc dD];simpa using hi
 ·have cU:(Instr.mapUpdate t (.map (some r)) (aD key) val).run P w = .ok () { w with heap:=w.heap.setIfInBounds r (.map (es.push { key:=aD key,val:=val,born:=c }) (c+1)) }:=by
   simp[Instr.mapUpdate,run_underlying ht,MapKept.run_getObj_map hr,hc,MapKept.run_findKey hk hf,MapKept.run_setObj_map _ hr,Result.andThen]
  unfold Oper.wp;simp[execOp,jz,hm,hx,hv,cU,Result.andThen];exact hK' _ _ (hK _ ⟨es.push { key:=aD key,val:=val,born:=c },c+1,kvs ++ [(key,val)],by simp[hl],by simp[he],by simp;omega⟩ ⟨rfl,rfl,rfl,by simp,λi hi=>by simp[Ne.symm hi]⟩)
end
theorem PQ{α:Type}[BEq α][LawfulBEq α][DecidableEq α](l:List α)(x:α):((l.map λy=>(y,Value.bool true)).lookup x).getD (.bool false) = .bool (decide (x∈l)):=by
 induction l with
 | nil=>simp
 | cons y l ih=>
  rw[List.map_cons,List.lookup_cons];by_cases h:x=y
  ·subst h;simp
  ·have hb:(x == y)=false:=by simpa using h
   rw[hb];simp only[ih,List.mem_cons,h,false_or]
theorem PO{α:Type}[BEq α][LawfulBEq α](l:List α)(x:α)(h:x∉l):(l.map λy=>(y,Value.bool true)).lookup x=none:=by
 induction l with
 | nil=>rfl
 | cons y l ih=>
  have hb:(x == y)=false:=by
   rw[beq_eq_false_iff_ne];intro e;exact h (by simp[e])
  rw[List.map_cons,List.lookup_cons,hb];exact ih (λhm=>h (mQ _ hm))
def Np.iG(p:Np.Placed):Int×List UInt8:=(p.host,p.zone.apex)
def Np.Dn(n:Nat)(p:Np.Placed):Prop:=(0<=p.host/\p.host<n)/\Np.VZone p.zone
def Np.oO(n:Nat)(l:List Np.Placed):Prop:=(∀ p∈l,Np.Dn n p)/\l.Pairwise λp q=>¬ (p.host=q.host/\p.zone.apex=q.zone.apex)
theorem aGZ{n k:Nat}{l:List Np.Placed}{x:Np.Placed}(hx:l[k]?=some x)(h:Np.oO n l):Np.Dn n x/\Np.iG x∉(l.take k).map Np.iG:=by
 refine⟨h.1 x (gQ hx),λhm=>?_⟩;obtain⟨y,hy,he⟩:=List.mem_map.1 hm;have h1:(l.take k ++ [x]).Pairwise λp q=>¬ (p.host=q.host/\p.zone.apex=q.zone.apex):=by
  obtain⟨hl,he⟩:=cQ.1 hx
  have:l.take k ++ [x]=l.take (k+1):=by rw[fQ hl,he]
  rw[this];exact h.2.sublist (List.take_sublist _ _)
 have h2:=(List.pairwise_append.1 h1).2.2 y hy x (by simp);unfold Np.iG at he;simp only[Prod.mk.injEq] at he;exact h2 he
theorem aGJ{n k:Nat}{l:List Np.Placed}{x:Np.Placed}(hx:l[k]?=some x)(h:Np.oO n (l.take k))(h1:Np.Dn n x)(h2:Np.iG x∉(l.take k).map Np.iG):Np.oO n (l.take (k+1)):=by
 obtain⟨hl,he⟩:=cQ.1 hx;have ht:l.take (k+1)=l.take k ++ [x]:=by rw[fQ hl,he]
 rw[ht];refine⟨λp hp=>?_,List.pairwise_append.2 ⟨h.2,by simp,λy hy z hz Pf=>?_⟩⟩
 ·rcases List.mem_append.1 hp with hp | hp
  ·exact h.1 p hp
  ·rw[List.mem_singleton] at hp;subst hp;exact h1
 ·rw[List.mem_singleton] at hz;subst hz;exact h2 (List.mem_map.2 ⟨y,hy,by unfold Np.iG;simp[Pf.1,Pf.2]⟩)
theorem aFJ(hv:Value)(n:Nat)(hn:∃ A c,hv = .slice A n c)(zv:Value)(l:List Np.Placed)(sv:Value)(ty life:Int)(dv cE:Value)(s:ByteArray)(aR:sv = .string s)(hl:l.length<=500)(hz:∀ p∈l,p.zone.sets.length<=20000)(w:World)(hR:iP w w.heap.size)(hd:SlR lT 3 w w.heap.size zv l) :
 Calls prog 181 #[.agg #[hv,zv,sv,.int .i64 ty,.int .i64 life,dv,cE]] w λe w'=>e = .returned (.bool (Np.yes (Np.oO n l)))/\Below w.heap.size w w':=by
 obtain⟨r,hr⟩:∃ r,Np.yes (Np.oO n l)=r:=⟨_,rfl⟩;rw[hr];have HR:=jq hr;have HD:=jq hd;have gd:=jq hR;have HZ:=jq hz;obtain⟨Ah,ch,rfl⟩:=hn;obtain⟨A,c,rfl,bD,bL⟩:=al hd;subst aR;clear hr hd hR hz;have aYQ:∀ (w:World),(Instr.makeMap 299 none).run prog w = .ok (.map (some w.heap.size)) (w.alloc (.map #[] 0)):=λw=>by
  simp[Instr.makeMap,Result.andThen]
 have aYZ:∀ (w:World),(Instr.makeMap 111 none).run prog w = .ok (.map (some w.heap.size)) (w.alloc (.map #[] 0)):=λw=>by
  simp[Instr.makeMap,Result.andThen]
 have gk:decide (4000<(l.length:Int))=false:=tQ (by omega);go_enter func181,ntmps181;go_wp2_with fail;obtain⟨w1,aj⟩:∃ w1,((w.alloc (.cells #[.slice Ah n ch,.slice A l.length c,.string s,.int .i64 ty,.int .i64 life,dv,cE] 68)).alloc (.map #[] 0)).alloc (.map #[] 0)=w1:=⟨_,rfl⟩;obtain⟨X,hX⟩:∃ X,w.heap.size=X:=⟨_,rfl⟩;obtain⟨X1,oW⟩:∃ X1,X+1=X1:=⟨_,rfl⟩;obtain⟨X2,D2⟩:∃ X2,X1+1=X2:=⟨_,rfl⟩;have uB:Hid (jj X1 [] w1):=jq (by
  rw[<-aj,<-oW,<-hX];have h0:=jj.made (w.alloc (.cells #[.slice Ah n ch,.slice A l.length c,.string s,.int .i64 ty,.int .i64 life,dv,cE] 68));rw[show w.heap.size+1=(w.alloc (.cells #[.slice Ah n ch,.slice A l.length c,.string s,.int .i64 ty,.int .i64 life,dv,cE] 68)).heap.size by simp];exact h0.keep ((vQ _ _).alloc (bQ _) _) (by simp))
 have Tm:Hid (jP X2 0 w1):=jq (by
  rw[<-aj,<-D2,<-oW,<-hX];have h0:=jP.made ((w.alloc (.cells #[.slice Ah n ch,.slice A l.length c,.string s,.int .i64 ty,.int .i64 life,dv,cE] 68)).alloc (.map #[] 0));simpa using h0)
 have ay:Hid (Below X w w1):=jq (by rw[<-aj,<-hX];exact (((vQ _ _).alloc (bQ _) _).alloc (by simp) _).alloc (by simp;omega) _);have Sz:Hid (w1.cell? ⟨X,0,none⟩=some (.slice Ah n ch)):=jq (by rw[<-aj,<-hX];simp[go_sem]);have bh:X2<w1.heap.size:=by rw[<-aj,<-D2,<-oW,<-hX];simp
 rw[aj,hX,oW,D2];have Oo:X<X1:=by omega
 have aWQ:X1<X2:=by omega
 rw[hX] at HD gd;have kA:=jq hX;clear aj oW D2;go_loopw [17] (λi wr=>∃ k:Nat,k<=l.length/\i = .int .i64 k/\Hid (Below X w wr)/\X2<wr.heap.size/\Hid (wr.cell? ⟨X,0,none⟩=some (.slice Ah n ch))/\Hid (jj X1 (((l.take k).map Np.iG).map λy=>(y,Value.bool true)) wr)/\Hid (jP X2 k wr)/\Hid (Np.oO n (l.take k))) (λi _=>l.length - (intOf i).toNat)
 case atStart=>exact⟨0,jQ _,rfl,ay,bh,Sz,uB,Tm,jq ⟨λp hp=>by simp at hp,by simp⟩⟩
 case round=>
  obtain⟨k,hk,rfl,HB,cK,HC,HM,HN,HV⟩:=hrel;have D7:=HC.out;by_cases aa:k<l.length
  ·obtain⟨x,ab⟩:∃ x,l[k]?=some x:=⟨_,aQ aa⟩;obtain⟨b,o,sn,vz,rfl,bU,aF,cx,fK,f0,f1,f2⟩:=Qm (HD.out.keep mq HB.out) ab;have lN:=jq (aGZ (n:=n) (k:=k) ab);have cN:=jq (λh1 h2=>aGJ ab HV.out h1 h2);have HF:Hid (¬ Np.Dn n x->r=false):=jq (λh=>by rw[<-HR.out];exact Np.aN λq=>h (lN.out q).1);have uo:Hid (Np.iG x∈(l.take k).map Np.iG->r=false):=jq (λh=>by rw[<-HR.out];exact Np.aN λq=>(lN.out q).2 h);have HT:Hid ((l.take (k+1)).map Np.iG=(l.take k).map Np.iG ++ [Np.iG x]):=jq (by
    obtain⟨hl,he⟩:=cQ.1 ab;rw[fQ hl,he,List.map_append];rfl)
   have zZ:Hid (x.zone.sets.length<=20000):=jq (HZ.out x (gQ ab));have my:Hid (Np.iG x=(x.host,sn.data.toList)):=jq (by unfold Np.iG;rw[aF]);obtain⟨Az,cz,rfl,_,_⟩:=al fK;obtain⟨nz,jy⟩:∃ nz,x.zone.sets.length=nz:=⟨_,rfl⟩;have aS:=jq aF;rw[jy] at f2;have lR:Hid (SlR bk 5 wr wr.heap.size (.slice Az nz cz) x.zone.sets):=jq (by rw[<-jy];exact fK.more bY (by have:=HB.out.size;omega));obtain⟨w2,ae⟩:∃ w2,wr.alloc (.cells #[.int .i64 x.host,.string sn,.slice Az nz cz] 72)=w2:=⟨_,rfl⟩;obtain⟨w3,eU⟩:∃ w3,w2.alloc (.cells #[.int .i64 x.host,.string sn] 301)=w3:=⟨_,rfl⟩;have aM:w2.heap.size=wr.heap.size+1:=by rw[<-ae];simp
   have dP:w3.heap.size=w2.heap.size+1:=by rw[<-eU];simp
   have ac:Below wr.heap.size wr w2:=by rw[<-ae];exact (vQ _ _).alloc (bQ _) _
   have am:Below wr.heap.size wr w3:=by rw[<-eU];exact ac.alloc (by omega) _
   have p0:w2.cell? ⟨wr.heap.size,0,none⟩=some (.int .i64 x.host):=by rw[<-ae];simp[go_sem]
   have p1:w2.cell? ⟨wr.heap.size,1,none⟩=some (.string sn):=by rw[<-ae];simp[go_sem]
   have q0:w3.cell? ⟨wr.heap.size,0,none⟩=some (.int .i64 x.host):=by rw[<-eU,<-p0];simp[go_sem,aM]
   have q1:w3.cell? ⟨wr.heap.size,1,none⟩=some (.string sn):=by rw[<-eU,<-p1];simp[go_sem,aM]
   have q2:w3.cell? ⟨wr.heap.size,2,none⟩=some (.slice Az nz cz):=by rw[<-eU,<-ae];simp[go_sem]
   have r0:w3.cell? ⟨wr.heap.size+1,0,none⟩=some (.int .i64 x.host):=by rw[<-eU,<-aM];simp[go_sem]
   have r1:w3.cell? ⟨wr.heap.size+1,1,none⟩=some (.string sn):=by rw[<-eU,<-aM];simp[go_sem]
   have NP:w3.cell? ⟨X,0,none⟩=some (.slice Ah n ch):=(am.cell (by dsimp only;omega)).trans D7;have az:=jq (HB.out.trans (am.mono (by omega)));have pI:Hid (jj X1 (((l.take k).map Np.iG).map λy=>(y,Value.bool true)) w3):=jq (HM.out.keep am (by omega));have sN:Hid (jP X2 k w3):=jq (HN.out.keep am cK);have jN:Hid (SlR bk 5 w3 w3.heap.size (.slice Az nz cz) x.zone.sets):=jq ((lR.out.keep ba am).more bY am.size);have rc:Hid (X2<w3.heap.size):=jq (by omega);have fi:(Instr.lookup 299 (.map (some X1)) (.agg #[.int .i64 x.host,.string sn]) false).run prog w3 = .ok (.bool (decide ((x.host,sn.data.toList)∈(l.take k).map Np.iG))) w3:=by
    have:=avX w3 299 4 underlying299 X1 _ pI.out (x.host,sn.data.toList) (.bool false) (by kernel_rfl)
    rw[PQ] at this;exact this
   rw[<-my.out] at fi;clear ab aF fK ac am jy HM HN lR;by_cases g1:x.host<0
   ·have d1:decide (x.host<0)=true:=uQ g1;have HX:Hid (r=false):=jq (HF.out λh=>by have:=h.1;omega);clear g1;go_wp2_with fail;go_ret;exact⟨ag HX.out.symm,by rw[kA.out];exact az.out⟩
   ·have d1:decide (x.host<0)=false:=tQ g1;by_cases g2:(n:Int)<=x.host
    ·have d2:decide ((n:Int)<=x.host)=true:=uQ g2;have HX:Hid (r=false):=jq (HF.out λh=>by have:=h.1;omega);clear g1 g2;go_wp2_with fail;go_ret;exact⟨ag HX.out.symm,by rw[kA.out];exact az.out⟩
    ·have d2:decide ((n:Int)<=x.host)=false:=tQ g2;have HG:Hid (0<=x.host/\x.host<n):=jq (by omega);clear g1 g2;by_cases g3:Np.iG x∈(l.take k).map Np.iG
     ·rw[uQ g3] at fi;have HX:Hid (r=false):=jq (uo.out g3);clear g3;go_wp2_with fail;go_ret;exact⟨ag HX.out.symm,by rw[kA.out];exact az.out⟩
     ·rw[tQ g3] at fi;have jL:=jq g3;clear g3;go_wp2_with fail;refine (R1 sn cx _ x.zone.sets zZ.out w3 ((gd.out.keep az.out).more (by have:=az.out.size;omega)) jN.out).mono ?_;rintro e w4 ⟨rfl,ar⟩;have eC:w3.heap.size<=w4.heap.size:=ar.size;have s0:w4.cell? ⟨wr.heap.size,0,none⟩=some (.int .i64 x.host):=(ar.cell (by dsimp only;omega)).trans q0;have s1:w4.cell? ⟨wr.heap.size,1,none⟩=some (.string sn):=(ar.cell (by dsimp only;omega)).trans q1;have s2:w4.cell? ⟨wr.heap.size,2,none⟩=some (.slice Az nz cz):=(ar.cell (by dsimp only;omega)).trans q2;have t0:w4.cell? ⟨wr.heap.size+1,0,none⟩=some (.int .i64 x.host):=(ar.cell (by dsimp only;omega)).trans r0;have t1:w4.cell? ⟨wr.heap.size+1,1,none⟩=some (.string sn):=(ar.cell (by dsimp only;omega)).trans r1;have br:=jq (az.out.trans (ar.mono (by omega)));have Gu:Hid (jj X1 (((l.take k).map Np.iG).map λy=>(y,Value.bool true)) w4):=jq (pI.out.keep ar (by omega));have uE:Hid (jP X2 k w4):=jq (sN.out.keep ar rc.out);have D8:w4.cell? ⟨X,0,none⟩=some (.slice Ah n ch):=(ar.cell (by dsimp only;omega)).trans NP;have gu:=jq D8;clear ar p0 p1 q0 q1 q2 r0 r1 ae eU f0 f1 f2 fi NP pI sN;obtain⟨rz,ed⟩:∃ rz,Np.yes (Np.VZone ⟨sn.data.toList,x.zone.sets⟩)=rz:=⟨_,rfl⟩;rw[ed];have fR:=jq ed;clear ed
      cases rz with
      | false=>
       have HX:Hid (r=false):=jq (HF.out λh=>by
        have h1:=h.2;have h2:x.zone=⟨sn.data.toList,x.zone.sets⟩:=by rw[aS.out]
        rw[h2] at h1;have h3:=Np.bO h1;rw[fR.out] at h3
        cases h3)
       go_wp2_with fail;go_ret;exact⟨ag HX.out.symm,by rw[kA.out];exact br.out⟩
      | true=>
       have uN:Hid (Np.oO n (l.take (k+1))):=jq (cN.out ⟨HG.out,by
        have h2:x.zone=⟨sn.data.toList,x.zone.sets⟩:=by rw[aS.out]
        rw[h2];exact Np.fm.1 fR.out⟩ jL.out)
       have Ts:Hid ((((l.take k).map Np.iG).map λy=>(y,Value.bool true)).lookup (x.host,sn.data.toList)=none):=jq (by rw[<-my.out];exact PO _ _ jL.out);go_wp2_with (at_mapUpdate;first
        | (refine aLQ _ rfl _ _ _ 299 rfl 4 underlying299 X1 _ rfl Gu.out (x.host,sn.data.toList) rfl (.bool true) rfl Ts.out ?_;intro w5 ma lA;have s1':w5.cell? ⟨wr.heap.size,1,none⟩=some (.string sn):=(lA.cell (by dsimp only;omega)).trans s1;have H5:=jq (And.intro ma lA);have Tn:=jq (uE.out.turned lA (by omega));clear ma lA s0 s1 s2 t0 t1 D8)
        | (refine aKY _ rfl _ _ _ 111 rfl 9 4 underlying111 underlying9 X2 k rfl Tn.out sn.data.toList rfl (.bool true) rfl ?_;intro w6 Ox OY;have H6:=jq (And.intro Ox OY);clear Ox OY))
       go_roundw
       case rel=>
        refine⟨k+1,by omega,by go_num,jq (((br.out.trans (H5.out.2.below (by omega))).trans (H6.out.2.below (by omega)))),by rw[H6.out.2.size,H5.out.2.size];have:=rc.out;omega,jq ((H6.out.2.cell (by dsimp only;omega)).trans ((H5.out.2.cell (by dsimp only;omega)).trans gu.out)),jq ?_,jq H6.out.1,uN⟩;have h1:=H5.out.1.keep' (w':=w6) (H6.out.2.block _ (by omega));rw[HT.out,List.map_append,my.out];exact h1
       case measure=>simp[intOf] <;> omega
  ·have Ue:Hid (Np.oO n l):=jq (by have:=HV.out;rwa [kQ (by omega)] at this);obtain⟨es,ce,kvs,hes,_,ap⟩:=HN.out;have Xz:decide ((es.size:Int)<=500)=true:=uQ (by omega);have yq:(Builtin.len_ #[111] 3 #[.map (some X2)]).run prog wr = .ok (.int .i64 (es.size:Int)) wr:=by
    simp[Builtin.len_,run_underlying underlying111,MapKept.run_getObj_map hes,Result.andThen,goInt]
   obtain⟨m5,ma⟩:∃ m5,es.size=m5:=⟨_,rfl⟩;rw[ma] at yq Xz;clear hes ma;go_wp2_with fail;go_ret;exact⟨ag (by rw[<-HR.out];exact (Np.bO Ue.out).symm),by rw[kA.out];exact HB.out⟩
def jR(W:World)(B:Nat)(e:List Value)(c:Np.Copy):Prop:=∃ (s:ByteArray) (v:Value),s.data.toList=c.zone.apex/\s.size<=140737488355328/\SlR bk 5 W B v c.zone.sets/\e = [.int .i64 c.host,.int .i64 c.frm,.int .i64 c.til,.string s,v]
theorem kk:dl jR:=λ_ _ _ _ _ ⟨s,v,h1,h2,h3,h5⟩ hb=>⟨s,v,h1,h2,h3.keep ba hb,h5⟩
theorem r9:dJ jR:=λ_ _ _ _ _ ⟨s,v,h1,h2,h3,h5⟩ hb=>⟨s,v,h1,h2,h3.more bY hb,h5⟩
theorem ve{w:World}{B n c:Nat}{A:Option Addr}{xs:List Np.Copy}(h:SlR jR 5 w B (.slice A n c) xs){k:Nat}{x:Np.Copy}(hx:xs[k]?=some x):∃ (b o:Nat) (s:ByteArray) (v:Value),A=some ⟨b,o,none⟩/\b<B/\s.data.toList=x.zone.apex/\s.size<=140737488355328/\SlR bk 5 w B v x.zone.sets/\w.cell? ⟨b,o+k * 5,none⟩=some (.int .i64 x.host)/\w.cell? ⟨b,o+k * 5+1,none⟩=some (.int .i64 x.frm)/\w.cell? ⟨b,o+k * 5+2,none⟩=some (.int .i64 x.til)/\w.cell? ⟨b,o+k * 5+3,none⟩=some (.string s)/\w.cell? ⟨b,o+k * 5+4,none⟩=some v:=by
 obtain⟨A',c',hA',_,_,bV⟩:=h
 cases hA'
 obtain⟨b,o,e,hA,bC,hlen,hce,s,v,h1,h2,h3,he⟩:=bV k _ hx;subst he;exact⟨b,o,s,v,hA,bC,h1,h2,h3,hce 0 _ rfl,hce 1 _ rfl,hce 2 _ rfl,hce 3 _ rfl,hce 4 _ rfl⟩
theorem UN(h f u:Int)(s:ByteArray)(v:Value)(w:World) :
 Calls prog 125 #[.agg #[.int .i64 h,.int .i64 f,.int .i64 u,.string s,v]] w λe w'=>e = .returned (.string s)/\Below w.heap.size w w':=by
 have HB:Hid (∀ o,Below w.heap.size w (w.alloc o)):=jq (λo=>(vQ _ w).alloc (bQ _) _);go_enter func125,ntmps125;go_wp2_with fail;go_ret;exact⟨rfl,HB.out _⟩
theorem ck.turned{base r:Nat}{w w':World}{v:Value}{ps:List (List UInt8)}(h:ck base w v ps)(ht:Turned r w w')(hr:r<base):ck base w' v ps:=gp h (λg hg=>ht.block g (by have:=(h.lt g hg).1;omega))
theorem ck.weak{base base':Nat}{w:World}{v:Value}{ps:List (List UInt8)}(h:ck base w v ps)(hb:base'<=base):ck base' w v ps:=by
 refine⟨h.1,?_⟩;rcases h.2 with h2 | ⟨g,cap,cur,h1,h2,h3⟩
 ·exact .inl h2
 ·exact .inr ⟨g,cap,cur,h1,yQ hb h2,h3⟩
def CD(ks:List (List UInt8)):List (List UInt8×Value):=ks.map λy=>(y,Value.bool true)
theorem Ru(v:Value)(l:List Np.Copy)(bM:l.length<=20000)(w:World)(h:SlR jR 5 w w.heap.size v l) :
 Calls prog 124 #[v,.func (.func 125) #[] #[]] w λe w'=>∃ v',e = .returned v'/\ck w.heap.size w' v' (Np.cM (l.map (·.zone.apex)))/\Below w.heap.size w w':=by
 have HD:=jq h;obtain⟨A,c,rfl,bD,bL⟩:=al h;clear h;have pb:∀ (w:World),(Instr.makeMap 111 none).run prog w = .ok (.map (some w.heap.size)) (w.alloc (.map #[] 0)):=λw=>by
  simp[Instr.makeMap,Result.andThen]
 have jK:Hid (∀ k,(Np.cM ((l.take k).map (·.zone.apex))).length<=20000):=jq (λk=>by
  have h1:=Np.ub ((l.take k).map (·.zone.apex));rw[List.length_map,List.length_take] at h1;omega)
 go_enter func124,ntmps124;go_wp2_with fail;have uB:=jq (cI.made w);have ay:Hid (Below w.heap.size w (w.alloc (.map #[] 0))):=jq ((vQ _ w).alloc (bQ _) _);have bh:w.heap.size<(w.alloc (.map #[] 0)).heap.size:=by simp
 generalize w.alloc (.map #[] 0)=w1 at *;go_loopw [6,13] (λvo i wr=>∃ k:Nat,k<=l.length/\i = .int .i64 k/\Hid (Below w.heap.size w wr)/\w.heap.size<wr.heap.size/\Hid (cI w.heap.size (CD (Np.cM ((l.take k).map (·.zone.apex)))) wr)/\Hid (ck (w.heap.size+1) wr vo (Np.cM ((l.take k).map (·.zone.apex))))) (λ_ i _=>l.length - (intOf i).toNat)
 case atStart=>exact⟨0,jQ _,rfl,ay,bh,uB,jq ⟨by simp[Np.cM],.inl ⟨rfl,rfl⟩⟩⟩
 case round=>
  obtain⟨k,hk,rfl,HB,cK,HM,HO⟩:=hrel;by_cases aa:k<l.length
  ·obtain⟨x,ab⟩:∃ x,l[k]?=some x:=⟨_,aQ aa⟩;obtain⟨b,o,sn,vz,rfl,bU,aF,cx,fK,f0,f1,f2,f3,f4⟩:=ve (HD.out.keep kk HB.out) ab;obtain⟨Az,cz,rfl,_,_⟩:=al fK;obtain⟨nz,jy⟩:∃ nz,x.zone.sets.length=nz:=⟨_,rfl⟩;rw[jy] at f4;obtain⟨ks,tA⟩:∃ ks,Np.cM ((l.take k).map (·.zone.apex))=ks:=⟨_,rfl⟩;have HT:Hid (Np.cM ((l.take (k+1)).map (·.zone.apex))=Np.jT ks sn.data.toList):=jq (by
    obtain⟨hl,he⟩:=cQ.1 ab;rw[fQ hl,he,List.map_append,<-tA,aF];exact Np.CF _ _)
   have kZ:Hid (ks.length<=20000):=jq (by rw[<-tA];exact jK.out k);rw[tA] at HM HO;obtain⟨w2,ae⟩:∃ w2,wr.alloc (.cells #[.int .i64 x.host,.int .i64 x.frm,.int .i64 x.til,.string sn,.slice Az nz cz] 46)=w2:=⟨_,rfl⟩;have ac:Below wr.heap.size wr w2:=by rw[<-ae];exact (vQ _ _).alloc (bQ _) _
   have aM:wr.heap.size<w2.heap.size:=by rw[<-ae];simp
   have p0:w2.cell? ⟨wr.heap.size,0,none⟩=some (.int .i64 x.host):=by rw[<-ae];simp[go_sem]
   have p1:w2.cell? ⟨wr.heap.size,1,none⟩=some (.int .i64 x.frm):=by rw[<-ae];simp[go_sem]
   have p2:w2.cell? ⟨wr.heap.size,2,none⟩=some (.int .i64 x.til):=by rw[<-ae];simp[go_sem]
   have p3:w2.cell? ⟨wr.heap.size,3,none⟩=some (.string sn):=by rw[<-ae];simp[go_sem]
   have p4:w2.cell? ⟨wr.heap.size,4,none⟩=some (.slice Az nz cz):=by rw[<-ae];simp[go_sem]
   have ak:=jq ac;have ap:=HB.out.size;clear ab aF fK jy tA ac;go_wp2_with fail;refine (UN _ _ _ _ _ _).mono ?_;rintro e w3 ⟨rfl,am⟩;have az:=jq (ak.out.trans (am.mono (by omega)));have dP:wr.heap.size<w3.heap.size:=by have:=am.size;omega
   have pI:Hid (cI w.heap.size (CD ks) w3):=jq (HM.out.keep az.out cK);have gb:Hid (ck (w.heap.size+1) w3 _ ks):=jq (HO.out.keep az.out);clear am ae p0 p1 p2 p3 p4 f0 f1 f2 f3 f4;have iE:=Fc (P:=prog) w3 111 9 4 underlying111 underlying9 w.heap.size _ pI.out sn.data.toList (.bool false) (by kernel_rfl);unfold CD at iE;rw[PQ] at iE;by_cases hin:sn.data.toList∈ks
   ·have gX:Hid (Np.cM ((l.take (k+1)).map (·.zone.apex))=ks):=jq (by rw[HT.out,Np.Hi hin]);rw[uQ hin] at iE;clear hin;go_wp2_with fail;go_roundw
    case rel=>exact⟨k+1,by omega,by go_num,jq (HB.out.trans (az.out.mono (by omega))),by omega,jq (by rw[gX.out];exact pI.out),jq (by rw[gX.out];exact gb.out)⟩
    case measure=>simp[intOf] <;> omega
   ·have gX:Hid (Np.cM ((l.take (k+1)).map (·.zone.apex))=ks ++ [sn.data.toList]):=jq (by rw[HT.out,Np.jT,Qc hin]);have jL:Hid ((CD ks).lookup sn.data.toList=none):=jq (PO _ _ hin);rw[tQ hin] at iE;clear hin;go_wp2_with (first
     | (at_mapUpdate;refine RS _ rfl _ _ _ 111 rfl 9 4 underlying111 underlying9 w.heap.size _ rfl pI.out sn.data.toList rfl (.bool true) rfl jL.out ?_;intro w5 ma lA;have H5:=jq (And.intro ma lA);have mA:Hid (ck (w.heap.size+1) w5 _ ks):=jq (ck.turned gb.out lA (by omega));have jB:wr.heap.size<w5.heap.size:=(by rw[lA.size];exact dP);clear ma lA)
     | (at_builtin;refine zj _ rfl _ _ rfl (w.heap.size+1) _ ks rfl (mA.out.alloc _) w5.heap.size sn.data.toList (by simp[go_sem]) (by simp[go_sem]) (by have:=kZ.out;omega) (by simp;omega) ?_;intro v6 w6 kI aO;have H6:=jq (And.intro kI aO);clear kI aO))
    go_roundw
    case rel=>exact⟨k+1,by omega,by go_num,jq ((((HB.out.trans (az.out.mono (by omega))).trans (H5.out.2.below (bQ _))).alloc (by omega) _).trans (H6.out.2.mono (by omega))),by have:=H6.out.2.size;simp at this;omega,jq (by rw[gX.out];unfold CD;rw[List.map_append];exact (H5.out.1.keep ((vQ _ _).alloc (bQ _) _) (by omega)).keep H6.out.2 (by omega)),jq (by rw[gX.out];exact H6.out.1)⟩
    case measure=>simp[intOf] <;> omega
  ·have HE':Hid (l.take k=l):=jq (kQ (by omega));go_wp2_with fail;go_ret;exact⟨_,rfl,by have:=HO.out.weak (Nat.le_succ _);rw[HE'.out] at this;exact this,HB.out⟩
theorem aHZ{w:Np.WorldP} : Np.VWorld w↔(Np.VHosts w.hosts/\Np.oO w.hosts.length w.zones)/\Np.VRoot w.anchor w.hints:=
 ⟨λh=>⟨⟨h.hosts,h.each,h.apart⟩,h.root⟩,λh=>⟨h.1.1,h.2,h.1.2.1,h.1.2.2⟩⟩
theorem aIK(hv:Value)(hs:List Np.Host)(zv:Value)(l:List Np.Placed)(s:ByteArray)(ap:s.size<=140737488355328)(ty life:Int)(dv:Value)(d:List Np.Datum)(cE:Value)(hints:List Int)(hl:l.length<=500)(hz:∀ p∈l,p.zone.sets.length<=20000)(w:World)(hR:iP w w.heap.size)
 (hh:SlR gz 3 w w.heap.size hv hs) (hd:SlR lT 3 w w.heap.size zv l) (hdd:SlR bF 3 w w.heap.size dv d) (jt:SlR gB 1 w w.heap.size cE hints) :
 Calls prog 110 #[.agg #[hv,zv,.string s,.int .i64 ty,.int .i64 life,dv,cE]] w λe w'=>e = .returned (.bool (Np.yes (Np.VWorld ⟨hs,l,⟨s.data.toList,ty,life,d⟩,hints⟩)))/\Below w.heap.size w w':=by
 obtain⟨r,hr⟩:∃ r,Np.yes (Np.VWorld ⟨hs,l,⟨s.data.toList,ty,life,d⟩,hints⟩)=r:=⟨_,rfl⟩;rw[hr];have HR:Hid (Np.yes ((Np.VHosts hs/\Np.oO hs.length l)/\Np.VRoot ⟨s.data.toList,ty,life,d⟩ hints)=r):=jq (by rw[<-hr];exact (Np.sB (aHZ (w:=⟨hs,l,⟨s.data.toList,ty,life,d⟩,hints⟩))).symm);have HH:=jq hh;have HD:=jq hd;have pz:=jq hdd;have pB:=jq jt;have gd:=jq hR;obtain⟨A1,c1,rfl,_,_⟩:=al hh;obtain⟨A2,c2,rfl,_,_⟩:=al hd;obtain⟨A3,c3,rfl,_,_⟩:=al hdd;obtain⟨A4,c4,rfl,_,_⟩:=al jt;clear hr hd hR hh hdd jt;obtain⟨W1,an⟩:∃ W1,w.alloc (.cells #[.slice A1 hs.length c1,.slice A2 l.length c2,.string s,.int .i64 ty,.int .i64 life,.slice A3 d.length c3,.slice A4 hints.length c4] 68)=W1:=⟨_,rfl⟩;have aL:Below w.heap.size w W1:=by rw[<-an];exact (vQ _ _).alloc (bQ _) _
 have kP:W1.heap.size=w.heap.size+1:=by rw[<-an];simp
 obtain⟨n1,bp⟩:∃ n,hs.length=n:=⟨_,rfl⟩;obtain⟨n2,bJ⟩:∃ n,l.length=n:=⟨_,rfl⟩;obtain⟨n3,di⟩:∃ n,d.length=n:=⟨_,rfl⟩;obtain⟨n4,dO⟩:∃ n,hints.length=n:=⟨_,rfl⟩;rw[bp,bJ,di,dO] at an;rw[bp] at HH HR;rw[bJ] at HD;rw[di] at pz;rw[dO] at pB;rw[bp,bJ,di,dO];have k0:W1.cell? ⟨w.heap.size,0,none⟩=some (.slice A1 n1 c1):=by rw[<-an];simp[go_sem]
 have k1:W1.cell? ⟨w.heap.size,1,none⟩=some (.slice A2 n2 c2):=by rw[<-an];simp[go_sem]
 have k2:W1.cell? ⟨w.heap.size,2,none⟩=some (.string s):=by rw[<-an];simp[go_sem]
 have k3:W1.cell? ⟨w.heap.size,3,none⟩=some (.int .i64 ty):=by rw[<-an];simp[go_sem]
 have k4:W1.cell? ⟨w.heap.size,4,none⟩=some (.int .i64 life):=by rw[<-an];simp[go_sem]
 have k5:W1.cell? ⟨w.heap.size,5,none⟩=some (.slice A3 n3 c3):=by rw[<-an];simp[go_sem]
 have k6:W1.cell? ⟨w.heap.size,6,none⟩=some (.slice A4 n4 c4):=by rw[<-an];simp[go_sem]
 have aU:=jq aL;have HN:=jq (And.intro bp (And.intro bJ (And.intro di dO)));clear aL bp bJ di dO;go_enter func110,ntmps110;go_wp2_with fail;refine (aFX _ hs _ (HH.out.later km sh aU.out)).mono ?_;rintro e w2 ⟨rfl,ac⟩;replace k0:=(cl ac (by omega)).trans k0;replace k1:=(cl ac (by omega)).trans k1;replace k2:=(cl ac (by omega)).trans k2;replace k3:=(cl ac (by omega)).trans k3;replace k4:=(cl ac (by omega)).trans k4;replace k5:=(cl ac (by omega)).trans k5;replace k6:=(cl ac (by omega)).trans k6;have aM:=ac.size;have ak:=jq (aU.out.trans (ac.mono (by omega)));clear ac an;obtain⟨b1,aw⟩:∃ b1,Np.yes (Np.VHosts hs)=b1:=⟨_,rfl⟩;rw[aw];have sV:=jq aw;clear aw
 cases b1 with
 | false=>
  have HX:Hid (r=false):=jq (by rw[<-HR.out];exact Np.aN λq=>by have:=Np.bO q.1.1;rw[sV.out] at this;cases this);go_wp2_with fail;go_ret;exact⟨ag HX.out.symm,ak.out⟩
 | true=>
  go_wp2_with fail;refine (aFJ _ n1 ⟨_,_,rfl⟩ _ l _ ty life _ _ s rfl hl hz _ ((gd.out.keep ak.out).more ak.out.size) (HD.out.later mq mr ak.out)).mono ?_;rintro e w3 ⟨rfl,am⟩;replace k0:=(cl am (by omega)).trans k0;replace k1:=(cl am (by omega)).trans k1;replace k2:=(cl am (by omega)).trans k2;replace k3:=(cl am (by omega)).trans k3;replace k4:=(cl am (by omega)).trans k4;replace k5:=(cl am (by omega)).trans k5;replace k6:=(cl am (by omega)).trans k6;have dP:=am.size;have az:=jq (ak.out.trans (am.mono (by omega)));clear am;obtain⟨b2,ac⟩:∃ b2,Np.yes (Np.oO n1 l)=b2:=⟨_,rfl⟩;rw[ac];have zX:=jq ac;clear ac
  cases b2 with
  | false=>
   have HX:Hid (r=false):=jq (by rw[<-HR.out];exact Np.aN λq=>by have:=Np.bO q.1.2;rw[zX.out] at this;cases this);go_wp2_with fail;go_ret;exact⟨ag HX.out.symm,az.out⟩
  | true=>
   go_wp2_with fail;refine (aFY s ap ty life _ d _ hints _ ((gd.out.keep az.out).more az.out.size) (pz.out.later cH du az.out) (pB.out.later lG sj az.out)).mono ?_;rintro e w4 ⟨rfl,ar⟩;have br:=jq (az.out.trans (ar.mono az.out.size));clear ar;have HX:Hid (Np.yes (Np.VRoot ⟨s.data.toList,ty,life,d⟩ hints)=r):=jq (by
    rw[<-HR.out];exact Np.sB ⟨λq=>⟨⟨Np.fm.1 sV.out,Np.fm.1 zX.out⟩,q⟩,λq=>q.2⟩)
   rw[HX.out];go_wp2_with fail;go_ret;exact⟨rfl,br.out⟩
end
section
open Go.RowKit
theorem Qz:∀ (o:List (List UInt8)) (a:List UInt8) (q:Nat) (hq:q<o.length),(∀ t (h:t<o.length),t<q->Np.aI o[t] a<0)->o[q]=a->Np.em o a=o
 | [],_,_,hq,_,_=>by simp at hq
 | x::l,a,0,_,_,he=>by
   simp at he;subst he;rw[Np.em,Qc (by rw[Np.eW.self];omega),Qb rfl]
 | x::l,a,q+1,hq,aa,he=>by
   have h0:=aa 0 (by simp) (by omega);rw[Np.em,Qb (by simpa using h0),Qz l a q (by simpa using hq) (λt h ht=>aa (t+1) (by simpa using h) (by omega)) (by simpa using he)]
theorem JO:∀ (o:List (List UInt8)) (a:List UInt8) (q:Nat),q<=o.length->(∀ t (h:t<o.length),t<q->Np.aI o[t] a<0)->(∀ h:q<o.length,¬ Np.aI o[q] a<0/\o[q]≠a)->Np.em o a=o.take q++a::o.drop q
 | [],a,q,_,_,_=>by simp[Np.em]
 | x::l,a,0,_,_,hn=>by
   obtain⟨h1,h2⟩:=hn (by simp);simp at h1 h2;rw[Np.em,Qc (by omega),Qc h2];rfl
 | x::l,a,q+1,hq,aa,hn=>by
   have h0:=aa 0 (by simp) (by omega);rw[Np.em,Qb (by simpa using h0),JO l a q (by simpa using hq) (λt h ht=>aa (t+1) (by simpa using h) (by omega)) (λh=>hn (by simpa using h))];rfl
theorem ayQ{o:List (List UInt8)}{x:List UInt8}{m:Nat}(hm:m<o.length):(o.take (m+1)++x::o.drop (m+1)).set (m+1) o[m]=o.take m++o[m]::o.drop m:=by
 have h1:(o.take (m+1)).length=m+1:=by rw[List.length_take];omega
 rw[List.set_append_right _ _ (by omega),h1,Nat.sub_self,List.set_cons_zero,fQ hm,List.append_assoc,sQ hm];rfl
theorem Q7{o:List (List UInt8)}{x a:List UInt8}{q:Nat}(hq:q<=o.length):(o.take q++x::o.drop q).set q a=o.take q++a::o.drop q:=by
 have h1:(o.take q).length=q:=by rw[List.length_take];omega
 rw[List.set_append_right _ _ (by omega),h1,Nat.sub_self,List.set_cons_zero]
theorem ayZ{o:List (List UInt8)}{x:List UInt8}{j t:Nat}(ht:t<j)(hj:j<=o.length):(o.take j++x::o.drop j)[t]?=o[t]?:=by
 rw[List.getElem?_append_left (by rw[List.length_take];omega),List.getElem?_take_of_lt ht]
theorem Q9{o:List (List UInt8)}{x:List UInt8}{j:Nat}(hj:j<=o.length):(o.take j++x::o.drop j)[j]?=some x:=by
 have h1:(o.take j).length=j:=by rw[List.length_take];omega
 rw[oQ (by omega),h1,Nat.sub_self];rfl
theorem Q8{o:List (List UInt8)}{x:List UInt8}{j:Nat}(hj:j<=o.length):(o.take j++x::o.drop j).length=o.length+1:=by
 rw[List.length_append,List.length_cons,List.length_take,List.length_drop];omega
theorem Qx:∀ (o:List (List UInt8)) (a:List UInt8),(Np.em o a).length<=o.length+1
 | [],a=>by simp[Np.em]
 | x::l,a=>by
   rw[Np.em];split
   ·have:=Qx l a;simp;omega
   ·split <;> simp
theorem Hx:∀ (l o:List (List UInt8)),(l.foldl Np.em o).length<=o.length+l.length
 | [],o=>by simp
 | a::l,o=>by
   have h1:=Hx l (Np.em o a);have h2:=Qx o a;rw[List.foldl_cons,List.length_cons];omega
theorem M9:∀ (l o:List (List UInt8)) (y:List UInt8),y∈l.foldl Np.em o->y∈o\/y∈l
 | [],o,y,h=>.inl h
 | a::l,o,y,h=>by
   rcases M9 l _ y h with h1 | h1
   ·have:∀ (o:List (List UInt8)),y∈Np.em o a->y∈o\/y=a:=by
     intro o
     induction o with
     | nil=>intro h;rw[Np.em,List.mem_singleton] at h;exact .inr h
     | cons x l ih=>
      intro h;rw[Np.em] at h;split at h
      ·rcases List.mem_cons.1 h with h | h
       ·exact .inl (by rw[h];simp)
       ·rcases ih h with h | h
        ·exact .inl (mQ _ h)
        ·exact .inr h
      ·split at h
       ·exact .inl h
       ·rcases List.mem_cons.1 h with h | h
        ·exact .inr h
        ·exact .inl h
    rcases this o h1 with h2 | h2
    ·exact .inl h2
    ·exact .inr (by rw[h2];simp)
   ·exact .inr (mQ _ h1)
theorem QS{X:Nat}{w:World}{v:Value}{o:List (List UInt8)}{a:List UInt8}{N1:Nat}(h:ck X w v (o ++ [a]))(hN:o.length+1=N1):∃ g cap,v = .slice (some ⟨g,0,none⟩) N1 cap/\w.ownsRow X 9 1 (.slice (some ⟨g,0,none⟩) N1 cap) N1 ((o ++ [a]).map aD):=by
 have e:(o ++ [a]).length=N1:=by simp[hN]
 have h1:w.ownsRow X 9 1 v N1 ((o ++ [a]).map aD):=by rw[<-e];exact h
 rcases h1.2 with ⟨_,h2⟩ | ⟨g,cap,cur,rfl,_⟩
 ·omega
 ·exact⟨g,cap,rfl,h1⟩
theorem aoY(v:Value)(l:List Np.Copy)(bM:l.length<=20000)(vu:∀ c∈l,c.zone.apex.length<=1000)(w:World)(h:SlR jR 5 w w.heap.size v l) :
 Calls prog 90 #[v] w λe w'=>∃ v',e = .returned v'/\ck w.heap.size w' v' (Np.apexes l)/\Below w.heap.size w w':=by
 rw[<-Np.Hk];have HD:=jq h;have ug:=jq vu;obtain⟨A,c,rfl,bD,bL⟩:=al h;clear h vu;obtain⟨X,hX⟩:∃ X,w.heap.size=X:=⟨_,rfl⟩;rw[hX] at HD |-;have kA:=jq hX;clear hX;go_enter func90,ntmps90;go_wp2_with fail;go_loopw [3,4] (λvo i wr=>∃ (k:Nat) (o:List (List UInt8)),k<=l.length/\i = .int .i64 k/\X<=wr.heap.size/\Hid (Below X w wr)/\Hid (ck X wr vo o)/\Hid (((l.take k).map (·.zone.apex)).foldl Np.em []=o)) (λ_ i _=>l.length - (intOf i).toNat)
 case atStart=>exact⟨0,[],jQ _,rfl,by rw[kA.out];exact bQ _,jq (vQ _ _),jq ⟨by simp,.inl ⟨rfl,rfl⟩⟩,jq rfl⟩
 case round=>
  obtain⟨k,o,hk,rfl,AZ,HB,HO,HE⟩:=hrel;have ip:Hid (o.length<=20000):=jq (by have:=Hx ((l.take k).map (·.zone.apex)) [];rw[HE.out] at this;simp at this;omega);have GI:Hid (∀ y∈o,y.length<=1000):=jq (λy hy=>by
   rw[<-HE.out] at hy;rcases M9 _ _ _ hy with h1 | h1
   ·cases h1
   ·obtain⟨c,hc,rfl⟩:=List.mem_map.1 h1;exact ug.out c (List.mem_of_mem_take hc))
  by_cases aa:k<l.length
  ·obtain⟨x,ab⟩:∃ x,l[k]?=some x:=⟨_,aQ aa⟩;obtain⟨b,oo,sn,vz,rfl,bU,aF,cx,fK,f0,f1,f2,f3,f4⟩:=ve (HD.out.keep kk HB.out) ab;have un:Hid (((l.take (k+1)).map (·.zone.apex)).foldl Np.em []=Np.em o sn.data.toList):=jq (by
    obtain⟨hl,he⟩:=cQ.1 ab;rw[fQ hl,he,List.map_append,List.foldl_append,HE.out,aF];rfl)
   have YM:sn.size<=1000:=by
    have h1:=ug.out x (gQ ab);rw[<-aF,aZ] at h1;exact h1
   obtain⟨A0,c0,rfl⟩:=ck.form HO.out;obtain⟨N,hN⟩:∃ N,o.length=N:=⟨_,rfl⟩;have HN:=jq hN;have fP:Hid (wr.ownsRow X 9 1 (.slice A0 N c0) N (o.map aD)):=jq (by have:wr.ownsRow X 9 1 (.slice A0 o.length c0) o.length (o.map aD):=HO.out;rwa [hN] at this);have aPY:N<=20000:=by rw[<-hN];exact ip.out
   rw[hN] at HO;rw[hN];obtain⟨wo,rfl⟩:∃ wo,wo=wr:=⟨_,rfl⟩;clear ab aF fK f4 hN;go_wp2_with fail;go_loopw [6] (λp wi=>∃ q:Nat,q<=N/\p = .int .i64 q/\Hid (Below wo.heap.size wo wi)/\Hid (∀ t (h:t<o.length),t<q->Np.aI o[t] sn.data.toList<0)) (λp _=>N - (intOf p).toNat)
   case atStart=>exact⟨0,jQ _,rfl,jq (vQ _ _),jq (λt h ht=>by omega)⟩
   case round=>
    obtain⟨q,YA,rfl,cA,HQ⟩:=hrel;have rW:=cA.out.size;have C7:Hid (wr.ownsRow X 9 1 (.slice A0 N c0) N (o.map aD)):=jq (gp fP.out (λg hg=>cA.out.block g (fP.out.lt g hg).2));by_cases hq:q<N
    ·obtain⟨g,rfl⟩:∃ g,A0=some ⟨g,0,none⟩:=by
      rcases C7.out.2 with ⟨h1,h2⟩ | ⟨g,cap,cur,h1,_⟩
      ·omega
      ·simp only[Value.slice.injEq] at h1;exact⟨g,h1.1⟩
     have yB:q<o.length:=by rw[HN.out];exact hq
     obtain⟨y,hy⟩:∃ y,o[q]?=some y:=⟨_,aQ yB⟩;have r0:wr.cell? ⟨g,q,none⟩=some (aD y):=by rw[C7.out.cellAt q (by omega),List.getElem?_map,hy];rfl
     have Zj:(⟨y.toArray⟩:ByteArray).size<=1000:=by
      have:=GI.out y (gQ hy)
      rw[<-aZ];exact this
     have HY:Hid (o[q]'yB=y):=jq (cQ.1 hy).2;have cL:=JQ ⟨y.toArray⟩ sn Zj YM;have e1:(⟨y.toArray⟩:ByteArray).data.toList=y:=rfl;rw[e1] at cL;have HC:=jq cL;clear cL e1 hy;by_cases fE:Np.aI y sn.data.toList<0
     ·have hd:decide (Np.aI y sn.data.toList<0)=true:=uQ fE;have uF:Hid (∀ t (h:t<o.length),t<q+1->Np.aI o[t] sn.data.toList<0):=jq (λt h ht=>by
       by_cases e:t=q
       ·subst e;rw[HY.out];exact fE
       ·exact HQ.out t h (by omega))
      obtain⟨cz,rx⟩:∃ cz,Np.aI y sn.data.toList=cz:=⟨_,rfl⟩;rw[rx] at hd HC;clear fE rx;unfold aD at r0;go_wp2_with (go_at_call 164;refine (HC.out _).mono ?_;rintro e w5 ⟨rfl,aC⟩;have cj:=jq (cA.out.trans (aC.mono rW));clear aC);go_roundw
      case rel=>exact⟨q+1,by omega,by go_num,jq cj.out,uF⟩
      case measure=>simp[intOf] <;> omega
     ·have hd:decide (Np.aI y sn.data.toList<0)=false:=tQ fE;have Tp:=jq fE;obtain⟨cz,rx⟩:∃ cz,Np.aI y sn.data.toList=cz:=⟨_,rfl⟩;rw[rx] at hd HC;clear fE rx;unfold aD at r0;by_cases hey:y=sn.data.toList
      ·have cT:(y == sn.toList)=true:=by rw[dQ,hey];simp
       have zP:Hid (Np.em o sn.data.toList=o):=jq (Qz o _ q yB HQ.out (by rw[HY.out];exact hey));clear hey;go_wp2_with (go_at_call 164;refine (HC.out _).mono ?_;rintro e w5 ⟨rfl,aC⟩;have r0':=(aC.cell (p:=⟨g,q,none⟩) (by have:=(C7.out.lt g rfl).2;dsimp only;omega)).trans r0;have cj:=jq (cA.out.trans (aC.mono rW));clear aC);go_roundw
       case rel=>exact⟨k+1,o,by omega,by go_num,by have:=cj.out.size;omega,jq (HB.out.trans (cj.out.mono AZ)),jq (HO.out.keep cj.out),jq (by rw[un.out,zP.out])⟩
       case measure=>simp[intOf] <;> omega
      ·have cT:(y == sn.toList)=false:=by rw[dQ];simpa using hey
       have zP:Hid (Np.em o sn.data.toList=o.take q++sn.data.toList::o.drop q):=jq (JO o _ q (by omega) HQ.out (λh=>by rw[HY.out];exact⟨Tp.out,hey⟩));clear hey;obtain⟨N1,mK⟩:∃ N1,o.length+1=N1:=⟨_,rfl⟩;have Ik:=HN.out;have aj:IntKind.i64.wrap ((N1:Int) - 1)=(N:Int):=by rw[show (N1:Int) - 1=N by omega];simp[IntKind.wrap,IntKind.bits,IntKind.signed];omega
       have WL:N+1=N1:=by omega
       have gW:=jq mK;clear mK Ik;go_wp2_with (first | (go_at_call 164;refine (HC.out _).mono ?_;rintro e w5 ⟨rfl,aC⟩;have r0':=(aC.cell (p:=⟨g,q,none⟩) (by have:=(C7.out.lt g rfl).2;dsimp only;omega)).trans r0;have cj:=jq (cA.out.trans (aC.mono rW));have mA:Hid (ck X w5 _ o):=jq (HO.out.keep cj.out);have Ip:X<=w5.heap.size:=(by have:=cj.out.size;omega);clear aC) | (at_builtin;refine zj _ rfl _ _ rfl X _ o rfl (mA.out.alloc _) w5.heap.size sn.data.toList (by simp[go_sem]) (by simp[go_sem]) (by have:=ip.out;omega) (by simp;omega) ?_;intro v6 w6 kI aO;obtain⟨g6,cap6,rfl,BZ⟩:=QS kI gW.out;have GU:=jq BZ;have dh:=jq ((((cj.out.mono AZ).alloc Ip _).trans aO));clear kI aO BZ));have gI:X<=w6.heap.size:=by have:=dh.out.size;omega
       obtain⟨wj,Js⟩:∃ wj,wj=w6:=⟨_,rfl⟩;clear Js;go_loopw [7] (λjv wi=>∃ (j:Nat) (z:List UInt8),q<=j/\j<=N/\jv = .int .i64 j/\X<=wi.heap.size/\Hid (Below X wo wi)/\Hid (wi.ownsRow X 9 1 (.slice (some ⟨g6,0,none⟩) N1 cap6) N1 ((o.take j++z::o.drop j).map aD))) (λjv _=>(intOf jv).toNat)
       case atStart=>exact⟨N,sn.data.toList,by omega,bQ _,rfl,gI,dh,jq (by rw[kQ (by rw[HN.out];exact bQ _),List.drop_eq_nil_of_le (by rw[HN.out];exact bQ _)];exact GU.out)⟩
       case round=>
        obtain⟨j,z,YB,IQ,rfl,kP,CO,lj⟩:=hrel;have ju:j<=o.length:=by rw[HN.out];exact IQ
        have D3:X<=g6/\g6<wr.heap.size:=lj.out.lt g6 rfl;have Eb:wr.cell? ⟨g6,j,none⟩=some (aD z):=by rw[lj.out.cellAt j (by omega),List.getElem?_map,Q9 ju];rfl
        have XN:wr.frozen? ⟨g6,j,none⟩=false:=lj.out.frozenAt j;have X4:(0:Int)<=(j:Int):=by omega
        have X5:(j:Int)<(N1:Int):=by omega
        have X6:j<N1:=by omega
        by_cases ON:q<j
        ·obtain⟨m,hm⟩:∃ m,j=m+1:=⟨j - 1,by omega⟩;have yv:m<o.length:=by omega
         obtain⟨u,hu⟩:∃ u,o[m]?=some u:=⟨_,aQ yv⟩;have yG:o[m]=u:=(cQ.1 hu).2;have fE:wr.cell? ⟨g6,m,none⟩=some (aD u):=by rw[lj.out.cellAt m (by omega),List.getElem?_map,ayZ (by omega) ju,hu];rfl
         have hjw:IntKind.i64.wrap ((j:Int) - 1)=(m:Int):=by rw[show (j:Int) - 1=m by omega];simp[IntKind.wrap,IntKind.bits,IntKind.signed];omega
         have iU:(0:Int)<=(m:Int):=by omega
         have IY:(m:Int)<(N1:Int):=by omega
         have ie:m<N1:=by omega
         have NX:decide ((q:Int)<(j:Int))=true:=uQ (by omega);have cN:Hid ((wr.setCell ⟨g6,j,none⟩ (aD u)).ownsRow X 9 1 (.slice (some ⟨g6,0,none⟩) N1 cap6) N1 ((o.take m++u::o.drop m).map aD)):=jq (by
          have h1:=(World.ownsRow.stored lj.out j (aD u)).1;rw[<-List.map_set] at h1;subst hm;rw[<-yG,ayQ yv,yG] at h1;exact h1)
         have jd:Hid (Below X wo (wr.setCell ⟨g6,j,none⟩ (aD u))):=jq (CO.out.setCell D3.1 _);have YC:q<=m:=by omega
         have Yh:m<=N:=by omega
         have Tl:Hid (m<j):=jq (by omega);clear hm hu yG;unfold aD at Eb fE cN jd;go_wp2_with fail;go_roundw
         case rel=>exact⟨m,u,YC,Yh,rfl,by simp;omega,jd,cN⟩
         case measure=>have:=Tl.out;simp[intOf] <;> omega
        ·have IR:j=q:=by omega
         subst IR;have NX:decide ((j:Int)<(j:Int))=false:=tQ (by omega);have cN:Hid ((wr.setCell ⟨g6,j,none⟩ (.string sn)).ownsRow X 9 1 (.slice (some ⟨g6,0,none⟩) N1 cap6) N1 ((o.take j++sn.data.toList::o.drop j).map aD)):=jq (by
          have h1:=(World.ownsRow.stored lj.out j (aD sn.data.toList)).1;rw[<-List.map_set,Q7 ju] at h1;exact h1)
         have jd:Hid (Below X wo (wr.setCell ⟨g6,j,none⟩ (.string sn))):=jq (CO.out.setCell D3.1 _);have xF:Hid ((o.take j++sn.data.toList::o.drop j).length=N1):=jq (by rw[Q8 ju];exact gW.out);unfold aD at Eb;go_wp2_with fail;go_roundw
         case rel=>exact⟨k+1,_,by omega,by go_num,by simp;omega,jq (HB.out.trans jd.out),jq (by unfold ck;rw[xF.out];exact cN.out),jq (by rw[un.out,zP.out])⟩
         case measure=>simp[intOf] <;> omega
    ·have I9:q=N:=by omega
     have zP:Hid (Np.em o sn.data.toList=o.take q++sn.data.toList::o.drop q):=jq (JO o _ q (by rw[HN.out];exact YA) HQ.out (λh=>by rw[HN.out] at h;omega));clear I9;obtain⟨N1,mK⟩:∃ N1,o.length+1=N1:=⟨_,rfl⟩;have Ik:=HN.out;have aj:IntKind.i64.wrap ((N1:Int) - 1)=(N:Int):=by rw[show (N1:Int) - 1=N by omega];simp[IntKind.wrap,IntKind.bits,IntKind.signed];omega
     have WL:N+1=N1:=by omega
     have gW:=jq mK;clear mK Ik;have cj:=cA;have mA:Hid (ck X wr _ o):=jq (HO.out.keep cA.out);have Ip:X<=wr.heap.size:=by omega
     go_wp2_with (first | (at_builtin;refine zj _ rfl _ _ rfl X _ o rfl (mA.out.alloc _) wr.heap.size sn.data.toList (by simp[go_sem]) (by simp[go_sem]) (by have:=ip.out;omega) (by simp;omega) ?_;intro v6 w6 kI aO;obtain⟨g6,cap6,rfl,BZ⟩:=QS kI gW.out;have GU:=jq BZ;have dh:=jq ((((cj.out.mono AZ).alloc Ip _).trans aO));clear kI aO BZ));have gI:X<=w6.heap.size:=by have:=dh.out.size;omega
     obtain⟨wj,Js⟩:∃ wj,wj=w6:=⟨_,rfl⟩;clear Js;go_loopw [7] (λjv wi=>∃ (j:Nat) (z:List UInt8),q<=j/\j<=N/\jv = .int .i64 j/\X<=wi.heap.size/\Hid (Below X wo wi)/\Hid (wi.ownsRow X 9 1 (.slice (some ⟨g6,0,none⟩) N1 cap6) N1 ((o.take j++z::o.drop j).map aD))) (λjv _=>(intOf jv).toNat)
     case atStart=>exact⟨N,sn.data.toList,by omega,bQ _,rfl,gI,dh,jq (by rw[kQ (by rw[HN.out];exact bQ _),List.drop_eq_nil_of_le (by rw[HN.out];exact bQ _)];exact GU.out)⟩
     case round=>
      obtain⟨j,z,YB,IQ,rfl,kP,CO,lj⟩:=hrel;have ju:j<=o.length:=by rw[HN.out];exact IQ
      have D3:X<=g6/\g6<wr.heap.size:=lj.out.lt g6 rfl;have Eb:wr.cell? ⟨g6,j,none⟩=some (aD z):=by rw[lj.out.cellAt j (by omega),List.getElem?_map,Q9 ju];rfl
      have XN:wr.frozen? ⟨g6,j,none⟩=false:=lj.out.frozenAt j;have X4:(0:Int)<=(j:Int):=by omega
      have X5:(j:Int)<(N1:Int):=by omega
      have X6:j<N1:=by omega
      by_cases ON:q<j
      ·exact absurd ON (by omega)
      ·have IR:j=q:=by omega
       subst IR;have NX:decide ((j:Int)<(j:Int))=false:=tQ (by omega);have cN:Hid ((wr.setCell ⟨g6,j,none⟩ (.string sn)).ownsRow X 9 1 (.slice (some ⟨g6,0,none⟩) N1 cap6) N1 ((o.take j++sn.data.toList::o.drop j).map aD)):=jq (by
        have h1:=(World.ownsRow.stored lj.out j (aD sn.data.toList)).1;rw[<-List.map_set,Q7 ju] at h1;exact h1)
       have jd:Hid (Below X wo (wr.setCell ⟨g6,j,none⟩ (.string sn))):=jq (CO.out.setCell D3.1 _);have xF:Hid ((o.take j++sn.data.toList::o.drop j).length=N1):=jq (by rw[Q8 ju];exact gW.out);unfold aD at Eb;go_wp2_with fail;go_roundw
       case rel=>exact⟨k+1,_,by omega,by go_num,by simp;omega,jq (HB.out.trans jd.out),jq (by unfold ck;rw[xF.out];exact cN.out),jq (by rw[un.out,zP.out])⟩
       case measure=>simp[intOf] <;> omega
  ·have HT:Hid (l.take k=l):=jq (kQ (by omega));go_wp2_with fail;go_ret;refine⟨_,rfl,?_,HB.out⟩;have h1:=HE.out;rw[HT.out] at h1;rw[h1];exact HO.out
theorem U2{B:Nat}{M:Nat->Prop}{w:World}(hM:∀ k,M k->B<=k):Below B w (bi w M):=
 ⟨rfl,rfl,rfl,by rw[gJ];exact bQ _,λk hk=>kS (λh=>by have:=hM k h;omega)⟩
theorem SlR.around{α:Type}{R:World->Nat->List Value->α->Prop}{sz B:Nat}{w:World}{v:Value}{xs:List α}{M:Nat->Prop}(h:SlR R sz w B v xs)(hk:dl R)(hm:dJ R)(hM:∀ k,M k->B<=k)(hB:B<=w.heap.size):SlR R sz (bi w M) w.heap.size v xs:=
 (h.keep hk (U2 hM)).more hm hB
theorem bE.keep{α:Type}{R:World->Nat->List Value->α->Prop}{sz:Nat}{e:TypeId}{base:Nat}{M:Nat->Prop}{w w':World}{v:Value}{xs:List α}(h:bE R sz e base M w v xs)(hk:dl R)(hs:fp R)(hm:dJ R)(hb:Below w.heap.size w w'):bE R sz e base M w' v xs:=by
 refine h.leaves hk hs hm (Leaves'.of_below hb) (λg hg=>?_);obtain⟨rows,h1,h2,h3,h4⟩:=h;exact⟨hb.block g (h2.lt g hg).2,h3 g hg⟩
theorem bE.lt{α:Type}{R:World->Nat->List Value->α->Prop}{sz:Nat}{e:TypeId}{base:Nat}{M:Nat->Prop}{w:World}{v:Value}{xs:List α}(h:bE R sz e base M w v xs):∀ g,v.ownBlock=some g->base<=g/\g<w.heap.size:=by
 obtain⟨rows,h1,h2,h3,h4⟩:=h;exact h2.lt
theorem bE.formN{α:Type}{R:World->Nat->List Value->α->Prop}{sz:Nat}{e:TypeId}{base:Nat}{M:Nat->Prop}{w:World}{v:Value}{xs:List α}{n:Nat}(h:bE R sz e base M w v xs)(hn:xs.length=n):∃ A c,v = .slice A n c:=by
 subst hn;exact h.form
theorem oh:fp lT:=λ_ _ _ _ _ _ hM ⟨s,v,h1,h2,h3,h5⟩=>⟨s,v,h1,h2,h3.sans kn hM,h5⟩
theorem auZ:∀ (w:World) (B:Nat) (r:List Value) (y:Np.Placed),lT w B r y->∀ u∈r,u.oneCell'=true:=λw B r y ⟨s,v,_,_,h3,h5⟩ u hu=>by
 obtain⟨A,c,rfl,_⟩:=al h3;rw[h5] at hu;simp only[List.mem_cons,Qh,or_false] at hu;rcases hu with rfl | rfl | rfl <;> rfl
theorem auK:∀ (w:World) (B:Nat) (r:List Value) (y:Np.Signed),bk w B r y->∀ u∈r,u.oneCell'=true:=λw B r y ⟨s,v,u',_,_,h3,h4,h5⟩ u hu=>by
 obtain⟨A,c,rfl,_⟩:=al h3;obtain⟨A',c',rfl,_⟩:=al h4;rw[h5] at hu;simp only[List.mem_cons,Qh,or_false] at hu;rcases hu with rfl | rfl | rfl | rfl | rfl <;> rfl
theorem bE.slr_sans{α:Type}{R:World->Nat->List Value->α->Prop}{sz:Nat}{e:TypeId}{base:Nat}{M M':Nat->Prop}{w:World}{v:Value}{xs:List α}(hs:fp R)(hm:dJ R)(h:bE R sz e base M w v xs)(hM:∀ k,M' k->M k/\v.ownBlock≠some k)(hl:xs.length<=140737488355328):SlR R sz (bi w M') w.heap.size v xs:=by
 obtain⟨rows,h1,h2,h3,h4⟩:=h;have h5:bn R sz e base w.heap.size (bi w M') v xs:=⟨rows,h1,gp h2 (λg hg=>kS (λhm'=>(hM g hm').2 hg)),λi r x hr hx=>⟨(h4 i r x hr hx).1,hs _ _ _ _ _ _ (λk hk=>(hM k hk).1) (h4 i r x hr hx).2⟩⟩;have h6:=h5.slr hm (by rw[gJ];exact bQ _) hl;rwa [gJ] at h6
theorem Leaves'.slr{α:Type}{R:World->Nat->List Value->α->Prop}{sz:Nat}(hk:dl R)(hs:fp R)(hm:dJ R){M M':Nat->Prop}{w w':World}(h:Leaves' M w w' M'){v:Value}{xs:List α}(hr:SlR R sz (bi w M) w.heap.size v xs):SlR R sz (bi w' M') w'.heap.size v xs:=by
 have hb:Below w.heap.size (bi w M) (bi w' λk=>M k\/M' k):=by
  refine⟨h.os,h.tape,h.output,by rw[gJ,gJ];exact h.size,λk hk=>?_⟩;by_cases hm:M k
  ·rw[wV hm,wV (Or.inl hm)];have h1:k<w'.heap.size:=lQ hk h.size;simp[hk,h1]
  ·have hk':=h.keep k hk hm;rw[kS hm,kS (λe=>e.elim hm hk'.1)];exact hk'.2
 exact ((hr.keep hk hb).more hm h.size).sans hs (λ_ e=>.inr e)
def CH{α:Type}(R:World->Nat->List Value->α->Prop)(B n:Nat)(w:World)(e:List Value)(x:α):Prop:=∀ M:Nat->Prop,(∀ k,M k->B<=k/\k<n)->R (bi w M) w.heap.size e x
def gq{α:Type}(R:World->Nat->List Value->α->Prop)(sz B n:Nat)(w:World)(v:Value)(xs:List α):Prop:=∀ M:Nat->Prop,(∀ k,M k->B<=k/\k<n)->SlR R sz (bi w M) w.heap.size v xs
theorem CH.all{α:Type}{R:World->Nat->List Value->α->Prop}{B n:Nat}{w:World}{e:List Value}{x:α}(h:CH R B n w e x)(hs:fp R):R w w.heap.size e x:=hs.all (h (λ_=>False) (λ_ e=>e.elim))
theorem gq.all{α:Type}{R:World->Nat->List Value->α->Prop}{sz B n:Nat}{w:World}{v:Value}{xs:List α}(h:gq R sz B n w v xs)(hs:fp R):SlR R sz w w.heap.size v xs:=(h (λ_=>False) (λ_ e=>e.elim)).all hs
theorem QC:fp jR:=λ_ _ _ _ _ _ hM ⟨s,v,h1,h2,h3,h5⟩=>⟨s,v,h1,h2,h3.sans kn hM,h5⟩
theorem atZ:fp gz:=λ_ _ _ _ _ _ _ h=>h
theorem atJ:fp gB:=λ_ _ _ _ _ _ _ h=>h
end
section
open Go.RowKit Go.Shelf
attribute [local go_sem] Oper.semAt_some
structure CV where
 host:Int
 frm:Int
 til:Int
 str:ByteArray
 A:Option Addr
 n:Nat
 c:Nat
def CV.cells(x:CV):Array Value:=#[.int .i64 x.host,.int .i64 x.frm,.int .i64 x.til,.string x.str,.slice x.A x.n x.c]
structure CVOf(w:World)(B:Nat)(x:CV)(c:Np.Copy):Prop where
 host:x.host=c.host
 frm:x.frm=c.frm
 til:x.til=c.til
 apex:x.str.data.toList=c.zone.apex
 size:x.str.size<=140737488355328
 sets:SlR bk 5 w B (.slice x.A x.n x.c) c.zone.sets
 len:c.zone.sets.length=x.n
theorem CVOf.keep{w w':World}{B:Nat}{x:CV}{c:Np.Copy}(h:CVOf w B x c)(hb:Below B w w'):CVOf w' B x c:=⟨h.host,h.frm,h.til,h.apex,h.size,h.sets.keep ba hb,h.len⟩
theorem CVOf.more{w:World}{B B':Nat}{x:CV}{c:Np.Copy}(h:CVOf w B x c)(hb:B<=B'):CVOf w B' x c:=⟨h.host,h.frm,h.til,h.apex,h.size,h.sets.more bY hb,h.len⟩
theorem MR{w:World}{B n c:Nat}{A:Option Addr}{xs:List Np.Copy}(h:SlR jR 5 w B (.slice A n c) xs):∃ L:List (CV×Np.Copy),L.map (·.2)=xs/\L.length=n/\∀ i x,L[i]?=some x->CVOf w B x.1 x.2/\∃ b o,A=some ⟨b,o,none⟩/\b<B/\ai w b (o+i * 5) x.1.cells.toList:=by
 have hn:n=xs.length:=by
  obtain⟨A',c',hA,_,_,_⟩:=h;simp only[Value.slice.injEq] at hA;exact hA.2.1
 have aA:∀ k,k<=xs.length->∃ L:List (CV×Np.Copy),L.map (·.2)=xs.take k/\∀ i x,L[i]?=some x->CVOf w B x.1 x.2/\∃ b o,A=some ⟨b,o,none⟩/\b<B/\ai w b (o+i * 5) x.1.cells.toList:=by
  intro k
  induction k with
  | zero=>exact λ_=>⟨[],by simp,λi x hx=>by simp at hx⟩
  | succ k ih=>
   intro hk;obtain⟨L,h1,h2⟩:=ih (by omega);have hlen:L.length=k:=by have:=Qd List.length h1;simp at this;omega
   obtain⟨b,o,s,v,hA,hb,hs,ap,hv,f0,f1,f2,f3,f4⟩:=ve h (aQ (by omega:k<xs.length));obtain⟨Az,cz,rfl,_,_⟩:=al hv;refine⟨L ++ [(⟨xs[k].host,xs[k].frm,xs[k].til,s,Az,xs[k].zone.sets.length,cz⟩,xs[k])],by rw[List.map_append,h1,fQ (by omega)];rfl,λi x hx=>?_⟩;rcases Nat.lt_or_ge i L.length with aa | lZ
   ·rw[List.getElem?_append_left aa] at hx;exact h2 i x hx
   ·rw[oQ lZ] at hx;have h0:i - L.length=0:=by have:=(cQ.1 hx).1;simp at this;omega
    rw[h0] at hx;simp at hx;subst hx;obtain rfl:i=k:=by omega
    refine⟨⟨rfl,rfl,rfl,hs,ap,hv,rfl⟩,b,o,hA,hb,λj u hj=>?_⟩
    match j,hj with
    | 0,hj=>simp[CV.cells] at hj;subst hj;exact f0
    | 1,hj=>simp[CV.cells] at hj;subst hj;exact f1
    | 2,hj=>simp[CV.cells] at hj;subst hj;exact f2
    | 3,hj=>simp[CV.cells] at hj;subst hj;exact f3
    | 4,hj=>simp[CV.cells] at hj;subst hj;exact f4
    | j+5,hj=>simp[CV.cells] at hj
 obtain⟨L,h1,h2⟩:=aA xs.length (bQ _);rw[List.take_length] at h1;exact⟨L,h1,by rw[hn,<-h1,List.length_map],h2⟩
theorem MG(a1 a2 a3 a4 a5 a6 a7 a8 a9:Value)(pf:FuncId)(caps:Array Value)(w:World) :
 Calls prog 69 #[.agg #[a1,a2,a3,a4,a5,a6,a7,a8,a9],.func (.func pf) #[] caps] w λe w'=>e = .returned (.func (.func 141) #[] #[.pointer (some ⟨w.heap.size,0,none⟩),.pointer (some ⟨w.heap.size+1,0,none⟩)])/\w'=(w.alloc (.cells #[a1,a2,a3,a4,a5,a6,a7,a8,a9] 29)).alloc (.cells #[.func (.func pf) #[] caps] 132):=by
 go_enter func69,ntmps69;go_wp2_with fail;go_ret;exact⟨rfl,rfl⟩
theorem Rq{α:Type}{p:α->Bool}{L:List α}{k:Nat}{x:α}(hx:L[k]?=some x):(L.take (k+1)).filter p=if p x then (L.take k).filter p ++ [x] else (L.take k).filter p:=by
 obtain⟨hl,he⟩:=cQ.1 hx;rw[fQ hl,he,List.filter_append]
 cases h:p x <;> simp[h]
theorem Rr{α:Type}(p:α->Bool)(L:List α)(k:Nat):(L.take k).filter p <+: L.filter p:=by
 conv => rhs;rw[<-List.take_append_drop k L]
 rw[List.filter_append];exact List.prefix_append _ _
theorem MH(L:List (CV×Np.Copy))(p:CV×Np.Copy->Bool)(pf:FuncId)(caps:Array Value)(X Ob n c:Nat)(Dr:Nat->Prop)(A:Option Addr)(w:World)(hX:Dr X)(hO:Dr Ob)(kX:w.cell? ⟨X,1,none⟩=some (.slice A n c))(kO:w.cell? ⟨Ob,0,none⟩=some (.func (.func pf) #[] caps))(AU:L.length=n)(I0:n<=500)
 (hL:∀ i x,L[i]?=some x->∃ b o,A=some ⟨b,o,none⟩/\Dr b/\ai w b (o+i * 5) x.1.cells.toList) (eg:∀ args w,(callFunc pf args).run prog w = .ok (.enter pf args) w)
 (hp:∀ x∈L,∀ W,dU Dr w W->Calls prog pf (#[.agg x.1.cells]++caps) W λe W'=>e = .returned (.bool (p x))/\Below W.heap.size W W') :
 Ag prog 141 (λy=>#[y,.pointer (some ⟨X,0,none⟩),.pointer (some ⟨Ob,0,none⟩)]) (λx:CV×Np.Copy=>#[.agg x.1.cells]) (L.filter p) Dr w:=by
 intro l J Jx S W hW hJ DV hY hS hS' h0;have k1:=(hW.cell (p:=⟨X,1,none⟩) hX).trans kX;have HW:=jq hW;have HL:=jq hL;have HP:=jq hp;have jK:=jq AU;have KO:=jq kO;have tf:=hW.1;clear hW hL hp kX AU kO;refine callsIn_of_wp func141 rfl trivial ?_ rfl;simp only[ntmps141,List.size_toArray,List.length_cons,List.length_nil,Nat.reduceAdd,Nat.reduceSub,Array.replicate_succ,Array.replicate_zero,List.push_toArray,List.append_toArray,List.nil_append,List.cons_append];gi_wp2_with fail;gi_loopw [9] (λi wr=>∃ (k:Nat) (S1:Nat->Prop),k<=n/\i = .int .i64 k/\J ((L.take k).filter p) S1 wr/\(∀ k,S1 k->k<wr.heap.size)/\(∀ k,S1 k->S k\/W.heap.size<=k)/\Hid (dU Dr w wr)/\W.heap.size<=wr.heap.size) (λi _=>n - (intOf i).toNat)
 case atStart=>exact⟨0,S,jQ _,rfl,by simpa using h0,hS',λ_ e=>.inl e,HW,bQ _⟩
 case round=>
  obtain⟨k,S1,hk,rfl,hj,dG,bd,bH,ap⟩:=hrel;by_cases aa:k<n
  ·obtain⟨x,ab⟩:∃ x,L[k]?=some x:=⟨_,aQ (by rw[jK.out];exact aa)⟩;obtain⟨b,o,rfl,hb,hce⟩:=HL.out k x ab;have fL:dU Dr w wr:=bH.out;obtain⟨⟨xh,xf,xt,xs,xA,xn,xc⟩,cc⟩:=x;have f0:wr.cell? ⟨b,o+k * 5,none⟩=some (.int .i64 xh):=(fL.cell (p:=⟨b,o+k * 5,none⟩) hb).trans (hce 0 _ rfl);have f1:wr.cell? ⟨b,o+k * 5+1,none⟩=some (.int .i64 xf):=(fL.cell (p:=⟨b,o+k * 5+1,none⟩) hb).trans (hce 1 _ rfl);have f2:wr.cell? ⟨b,o+k * 5+2,none⟩=some (.int .i64 xt):=(fL.cell (p:=⟨b,o+k * 5+2,none⟩) hb).trans (hce 2 _ rfl);have f3:wr.cell? ⟨b,o+k * 5+3,none⟩=some (.string xs):=(fL.cell (p:=⟨b,o+k * 5+3,none⟩) hb).trans (hce 3 _ rfl);have f4:wr.cell? ⟨b,o+k * 5+4,none⟩=some (.slice xA xn xc):=(fL.cell (p:=⟨b,o+k * 5+4,none⟩) hb).trans (hce 4 _ rfl);have sJ:=jq ab;clear hce ab;have bX:(0:Int)<=(k:Int):=by omega
   have bW:(k:Int)<(n:Int):=by omega
   obtain⟨w2,ae⟩:∃ w2,wr.alloc (.cells #[.int .i64 xh,.int .i64 xf,.int .i64 xt,.string xs,.slice xA xn xc] 46)=w2:=⟨_,rfl⟩;have aM:w2.heap.size=wr.heap.size+1:=by rw[<-ae];simp
   have ac:Below wr.heap.size wr w2:=by rw[<-ae];exact (vQ _ _).alloc (bQ _) _
   have p0:w2.cell? ⟨wr.heap.size,0,none⟩=some (.int .i64 xh):=by rw[<-ae];simp[go_sem]
   have p1:w2.cell? ⟨wr.heap.size,1,none⟩=some (.int .i64 xf):=by rw[<-ae];simp[go_sem]
   have p2:w2.cell? ⟨wr.heap.size,2,none⟩=some (.int .i64 xt):=by rw[<-ae];simp[go_sem]
   have p3:w2.cell? ⟨wr.heap.size,3,none⟩=some (.string xs):=by rw[<-ae];simp[go_sem]
   have p4:w2.cell? ⟨wr.heap.size,4,none⟩=some (.slice xA xn xc):=by rw[<-ae];simp[go_sem]
   have wv:dU Dr w w2:=fL.of_below ac;have qO:=(wv.cell (p:=⟨Ob,0,none⟩) hO).trans KO.out;have ak:=jq ac;have er:=jq wv;clear fL ac wv;gi_wp2_with fail;refine⟨trivial,rfl,?_⟩;refine (callsIn_wide.2 (HP.out _ (gQ sJ.out) w2 er.out)).mono ?_;rintro e w3 ⟨rfl,am⟩;replace p0:=(cl am (by omega)).trans p0;replace p1:=(cl am (by omega)).trans p1;replace p2:=(cl am (by omega)).trans p2;replace p3:=(cl am (by omega)).trans p3;replace p4:=(cl am (by omega)).trans p4;have dP:=am.size;have rn:Below wr.heap.size wr w3:=ak.out.trans (am.mono (by omega));have vM:=hJ _ _ _ _ hj (ItStep.of_below rn);have az:=jq (bH.out.of_below rn);have HT:=jq (Rq (p:=p) sJ.out);clear ae am hj qO
   cases bw:p (⟨xh,xf,xt,xs,xA,xn,xc⟩,cc) with
   | false=>
    have HX:=jq bw;clear bw rn;gi_wp2_with fail;refine⟨λ_ _=>trivial,?_⟩;gi_wp2_with fail;go_roundw
    case rel=>exact⟨k+1,S1,by omega,by go_num,by rw[HT.out,HX.out];exact vM,λk e=>by have:=dG k e;omega,bd,az,by omega⟩
    case measure=>simp[intOf] <;> omega
   | true=>
    have HX:=jq bw;have fI:(L.take k).filter p ++ [(⟨xh,xf,xt,xs,xA,xn,xc⟩,cc)] <+: L.filter p:=by
     have h1:=HT.out;rw[HX.out,Qb rfl] at h1;rw[<-h1];exact Rr p L (k+1)
    obtain⟨fn,tmps,assign,body,hy,hR⟩:=hY ((L.take k).filter p) (⟨xh,xf,xt,xs,xA,xn,xc⟩,cc) S1 w3 fI vM (λk e=>by have:=dG k e;omega) (by omega);have mg:Sem.run prog (Instr.yield l #[.agg #[.int .i64 xh,.int .i64 xf,.int .i64 xt,.string xs,.slice xA xn xc]]) w3 = .ok (.round l fn tmps assign body) w3:=hy;have Db:=jq fI;clear hy fI bw rn;gi_wp2_with fail;refine⟨rfl,hR.mono ?_⟩;rintro e w4 ⟨S4,aJ,B6,IW,(⟨rfl,Ig⟩ | ⟨rfl,Ih⟩)⟩
    ·have br:Hid (dU Dr w w4):=jq (az.out.round aJ (λk e hd=>by
      rcases bd k e with e | e
      ·exact hS k e hd
      ·have:=(HW.out.2 k hd).1;omega))
     have eC:=aJ.size;clear aJ mg hR;gi_wp2_with fail;go_roundw
     case rel=>
      refine⟨k+1,S4,by omega,by go_num,by rw[HT.out,HX.out];exact Ig,IW,λk e=>?_,br,by omega⟩;rcases B6 k e with e | e
      ·exact bd k e
      ·right;omega
     case measure=>simp[intOf] <;> omega
    ·have eC:=aJ.size;clear aJ mg hR;gi_wp2_with fail;refine bodyPost_ret (results_none rfl _ _ _) rfl ?_;refine⟨⟨_,rfl⟩,.inr ⟨_,S4,Db.out,Ih,λk e=>?_⟩⟩;rcases B6 k e with e | e
     ·exact bd k e
     ·right;omega
  ·have eK:Hid (L.take k=L):=jq (kQ (by rw[jK.out];omega));rw[eK.out] at hj;gi_wp2_with fail;go_end0;exact⟨⟨_,rfl⟩,.inl ⟨S1,hj,bd⟩⟩
end
section
open Go.RowKit
theorem VS:∀ args w,(callFunc 70 args).run prog w = .ok (.enter 70 args) w:=enters_of func70 (by kernel_rfl) rfl
theorem VX:∀ args w,(callFunc 138 args).run prog w = .ok (.enter 138 args) w:=enters_of func138 (by kernel_rfl) rfl
theorem MX:∀ args w,(callFunc 141 args).run prog w = .ok (.enter 141 args) w:=enters_of func141 (by kernel_rfl) rfl
theorem UT(h f u:Int)(s:ByteArray)(v:Value)(A:Option Addr)(n c:Nat)(hv:v = .slice A n c)(bt:Nat)(t:Int)(w:World)(hb:bt<w.heap.size)(ht:w.cell? ⟨bt,0,none⟩=some (.int .i64 t)) :
 Calls prog 70 #[.agg #[.int .i64 h,.int .i64 f,.int .i64 u,.string s,v],.pointer (some ⟨bt,0,none⟩)] w λe w'=>e = .returned (.bool (decide (f<=t)&&decide (t<u)))/\Below w.heap.size w w':=by
 subst hv;obtain⟨W1,an⟩:∃ W1,w.alloc (.cells #[.int .i64 h,.int .i64 f,.int .i64 u,.string s,.slice A n c] 46)=W1:=⟨_,rfl⟩;have aw:Below w.heap.size w W1:=by rw[<-an];exact (vQ _ _).alloc (bQ _) _
 have k1:W1.cell? ⟨w.heap.size,1,none⟩=some (.int .i64 f):=by rw[<-an];simp[go_sem]
 have k2:W1.cell? ⟨w.heap.size,2,none⟩=some (.int .i64 u):=by rw[<-an];simp[go_sem]
 have kt:=(aw.cell (p:=⟨bt,0,none⟩) hb).trans ht;have HB:=jq aw;clear aw;go_enter func70,ntmps70;by_cases h1:f<=t
 ·have d1:decide (f<=t)=true:=uQ h1;by_cases h2:t<u
  ·have d2:decide (t<u)=true:=uQ h2;have HD:=jq (And.intro d1 d2);clear h1 h2;go_wp2_with fail;go_ret;exact⟨ag (by rw[HD.out.1,HD.out.2];rfl),HB.out⟩
  ·have d2:decide (t<u)=false:=tQ h2;have HD:=jq (And.intro d1 d2);clear h1 h2;go_wp2_with fail;go_ret;exact⟨ag (by rw[HD.out.1,HD.out.2];rfl),HB.out⟩
 ·have d1:decide (f<=t)=false:=tQ h1;have HD:=jq d1;clear h1;go_wp2_with fail;go_ret;exact⟨ag (by rw[HD.out];rfl),HB.out⟩
theorem ajY(h f u:Int)(s:ByteArray)(v:Value)(A:Option Addr)(n c:Nat)(hv:v = .slice A n c)(bz:Nat)(z:ByteArray)(w:World)(hb:bz<w.heap.size)(ht:w.cell? ⟨bz,0,none⟩=some (.string z)) :
 Calls prog 138 #[.agg #[.int .i64 h,.int .i64 f,.int .i64 u,.string s,v],.pointer (some ⟨bz,0,none⟩)] w λe w'=>e = .returned (.bool (s.data.toList == z.data.toList))/\Below w.heap.size w w':=by
 subst hv;obtain⟨W1,an⟩:∃ W1,w.alloc (.cells #[.int .i64 h,.int .i64 f,.int .i64 u,.string s,.slice A n c] 46)=W1:=⟨_,rfl⟩;have aw:Below w.heap.size w W1:=by rw[<-an];exact (vQ _ _).alloc (bQ _) _
 have k1:W1.cell? ⟨w.heap.size,3,none⟩=some (.string s):=by rw[<-an];simp[go_sem]
 have kt:=(aw.cell (p:=⟨bz,0,none⟩) hb).trans ht;have HB:=jq aw;obtain⟨q,hq⟩:∃ q,(s.toList == z.toList)=q:=⟨_,rfl⟩;have HQ:Hid ((s.data.toList == z.data.toList)=q):=jq (by rw[<-hq,dQ,dQ]);clear aw;rw[HQ.out];go_enter func138,ntmps138;go_wp2_with fail;go_ret;exact⟨rfl,HB.out⟩
end
end Go.Proofs.YtfnopgdcaanaiaaGreatDoor
