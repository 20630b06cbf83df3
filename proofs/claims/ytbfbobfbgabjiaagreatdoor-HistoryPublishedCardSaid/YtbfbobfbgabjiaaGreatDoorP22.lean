/- Parts of the proof. No condition. -/
import Derived.Laws.OwnMore
import Derived.Test.YtbfbobfbgabjiaaGreatDoorP17
import Derived.Test.YtbfbobfbgabjiaaGreatDoorP19
import Derived.Test.YtbfbobfbgabjiaaGreatDoorP20
set_option linter.all false
set_option maxRecDepth 100000
set_option maxHeartbeats 8000000
namespace Go.Proofs.YtbfbobfbgabjiaaGreatDoor
open Go.Proofs.Tryz
section
open Go.RowKit Go.MapKept
def jm(W:World)(B:Nat)(e:List Value)(p:Np.Placed):Prop:=∃ (s:ByteArray) (v:Value),s.data.toList=p.zone.apex/\s.size<=140737488355328/\SlR bC 5 W B v p.zone.sets/\e = [.int .i64 p.host,.string s,v]
theorem fV:dw jm:=λ_ _ _ _ _ ⟨s,v,h1,h2,h3,h5⟩ hb=>⟨s,v,h1,h2,h3.keep aN hb,h5⟩
theorem fW:dN jm:=λ_ _ _ _ _ ⟨s,v,h1,h2,h3,h5⟩ hb=>⟨s,v,h1,h2,h3.more bN hb,h5⟩
theorem Cz{w:World}{B n c:Nat}{A:Option Addr}{xs:List Np.Placed}(h:SlR jm 3 w B (.slice A n c) xs){k:Nat}{x:Np.Placed}(hx:xs[k]?=some x):∃ (b o:Nat) (s:ByteArray) (v:Value),A=some ⟨b,o,none⟩/\b<B/\s.data.toList=x.zone.apex/\s.size<=140737488355328/\SlR bC 5 w B v x.zone.sets/\w.cell? ⟨b,o+k * 3,none⟩=some (.int .i64 x.host)/\w.cell? ⟨b,o+k * 3+1,none⟩=some (.string s)/\w.cell? ⟨b,o+k * 3+2,none⟩=some v:=by
 obtain⟨A',c',hA',_,_,br⟩:=h
 cases hA'
 obtain⟨b,o,e,hA,bZ,hlen,hce,s,v,h1,h2,h3,he⟩:=br k _ hx;subst he;exact⟨b,o,s,v,hA,bZ,h1,h2,h3,hce 0 _ rfl,hce 1 _ rfl,hce 2 _ rfl⟩
def kn(r n:Nat)(w:World):Prop:=∃ es c kvs,w.heap[r]?=some (.map es c)/\es.toList.map (λe=>(e.key,e.val))=(kvs:List (List UInt8×Value)).map (λp=>(aA p.1,p.2))/\es.size<=n
theorem kn.lt{r n:Nat}{w:World}(h:kn r n w):r<w.heap.size:=by
 obtain⟨es,c,kvs,h,_⟩:=h;exact (eQ.1 h).1
theorem kn.keep{r k:Nat}{w w':World}{n:Nat}(h:kn r k w)(hb:Below n w w')(hn:r<n):kn r k w':=by
 obtain⟨es,c,kvs,h,h2⟩:=h;exact⟨es,c,kvs,(hb.block r hn).trans h,h2⟩
theorem kn.turned{r k r':Nat}{w w':World}(h:kn r k w)(ht:Turned r' w w')(hne:r≠r'):kn r k w':=by
 obtain⟨es,c,kvs,h,h2⟩:=h;exact⟨es,c,kvs,(ht.block r hne).trans h,h2⟩
theorem kn.made(w:World):kn w.heap.size 0 (w.alloc (.map #[] 0)):=⟨#[],0,[],heap_alloc_new _ _,rfl,bQ _⟩
theorem WT(x:List UInt8):∀ (es:List MapEntry) (kvs:List (List UInt8×Value)) (i:Nat),es.map (λe=>(e.key,e.val))=kvs.map (λp=>(aA p.1,p.2))->
 (∃ j e,es[j]?=some e/\e.key=aA x/\Instr.findNow .string (aA x) es i=some (some (i+j,e.val)))\/Instr.findNow .string (aA x) es i=some none:=by
 intro es
 induction es with
 | nil=>
  intro kvs i h;exact .inr rfl
 | cons e es ih=>
  intro kvs i h
  cases kvs with
  | nil=>simp at h
  | cons p kvs=>
   obtain⟨y,u⟩:=p;simp only[List.map_cons,List.cons.injEq,Prod.mk.injEq] at h;obtain⟨⟨h1,h2⟩,h3⟩:=h;have hs:Instr.sameNow .string (aA x) e.key=some (x == y):=by rw[h1]; simp only[Instr.sameNow]; rw[RF]
   by_cases bB:x=y
   ·subst bB;have hb:(x == x)=true:=by simp
    rw[hb] at hs;exact .inl ⟨0,e,rfl,h1,by simp only[Instr.findNow,hs]; rfl⟩
   ·have hb:(x == y)=false:=by simpa using bB
    rw[hb] at hs;rcases ih kvs (i+1) h3 with ⟨j,e',j1,j2,j3⟩ | h4
    ·exact .inl ⟨j+1,e',by simpa using j1,j2,by simp only[Instr.findNow,hs]; rw[j3,show i+1+j=i+(j+1) by omega]⟩
    ·exact .inr (by simp only[Instr.findNow,hs]; exact h4)
theorem adZ(a:ByteArray)(P:Program)(w:World):(Instr.keyThatStays (.string a) (.string a)).run P w = .ok (.string a) w:=by
 have h1:(a == a)=true:=by
  show (a.data == a.data)=true;simp
 have:Instr.sameBits 10000 (.string a) (.string a)=true:=by simp[Instr.sameBits,h1]
 simp[Instr.keyThatStays,this]
section
variable {P:Program} {ops:Array Oper} {rest:List Oper} {o:Oper} {a:Act} {Q:Exit->Act->World->Prop}
theorem aQJ(w:World)(hg:o.guard=none)(m x v:Operand)(t:TypeId)(kb:o.op=Op.mapUpdate t m x v)(kt et:TypeId)(ht:P.underlying t=some (.map kt et))(hk:P.underlying kt=some .string)
 (r n:Nat) (hm:a.eval m = .map (some r)) (hr:kn r n w) (key:List UInt8) (hx:a.eval x=aA key) (val:Value) (hv:a.eval v=val)
 (hK:∀ w',kn r (n+1) w'->Turned r w w'->wpList P ops Q rest (a.put o.dst undef) w'):wpList P ops Q (o::rest) a w:=by
 obtain⟨es,c,kvs,hr,he,hn⟩:=hr;refine wpList_plain hg λK' hK'=>?_;have hc:(Instr.checkKey false 10000 kt (aA key)).run P w = .ok () w:=MapKept.run_checkKey (k:=aA key) hk (by simp[MapKept.IsKey]) false 9999;have hl:r<w.heap.size:=(eQ.1 hr).1;rcases WT key es.toList kvs 0 he with ⟨j,e,j1,j2,hf⟩ | hf
 ·have tN:(Instr.keyThatStays (((es[j]?).map (·.key)).getD (aA key)) (aA key)).run P w = .ok (aA key) w:=by
   rw[Array.getElem?_toList] at j1;rw[j1];simp only[Option.map_some,Option.getD_some];rw[j2];exact adZ _ P w
  rw[Nat.zero_add] at hf;have dp:(Instr.mapUpdate t (.map (some r)) (aA key) val).run P w = .ok () { w with heap:=w.heap.setIfInBounds r (.map (es.modify j λe=>{ e with key:=aA key,val:=val }) c) }:=by
   simp[Instr.mapUpdate,run_underlying ht,MapKept.run_getObj_map hr,hc,MapKept.run_findKey hk hf,tN,MapKept.run_setObj_map _ hr,Result.andThen]
  unfold Oper.wp;simp[execOp,kb,hm,hx,hv,dp,Result.andThen];refine hK' _ _ (hK _ ⟨es.modify j λe=>{ e with key:=aA key,val:=val },c,kvs.modify j λ_=>(key,val),by simp[hl],?_,by simp; omega⟩ ⟨rfl,rfl,rfl,by simp,λi hi=>by simp[Ne.symm hi]⟩);apply List.ext_getElem?;intro i;have hi:=Qd (λl=>l[i]?) he;simp only[List.getElem?_map] at hi |-;rw[Array.toList_modify,List.getElem?_modify,List.getElem?_modify];by_cases dU:j=i
  ·subst dU;simp only[if_true]
   cases h1:es.toList[j]? <;> cases h2:kvs[j]? <;> simp[h1,h2] at hi |-
  ·simp only[Qc dU];simpa using hi
 ·have dp:(Instr.mapUpdate t (.map (some r)) (aA key) val).run P w = .ok () { w with heap:=w.heap.setIfInBounds r (.map (es.push { key:=aA key,val:=val,born:=c }) (c+1)) }:=by
   simp[Instr.mapUpdate,run_underlying ht,MapKept.run_getObj_map hr,hc,MapKept.run_findKey hk hf,MapKept.run_setObj_map _ hr,Result.andThen]
  unfold Oper.wp;simp[execOp,kb,hm,hx,hv,dp,Result.andThen];exact hK' _ _ (hK _ ⟨es.push { key:=aA key,val:=val,born:=c },c+1,kvs ++ [(key,val)],by simp[hl],by simp[he],by simp; omega⟩ ⟨rfl,rfl,rfl,by simp,λi hi=>by simp[Ne.symm hi]⟩)
end
theorem Qs{α:Type}[BEq α][LawfulBEq α][DecidableEq α](l:List α)(x:α):((l.map λy=>(y,Value.bool true)).lookup x).getD (.bool false) = .bool (decide (x∈l)):=by
 induction l with
 | nil=>simp
 | cons y l ih=>
  rw[List.map_cons,List.lookup_cons];by_cases h:x=y
  ·subst h; simp
  ·have hb:(x == y)=false:=by simpa using h
   rw[hb];simp only[ih,List.mem_cons,h,false_or]
theorem Qr{α:Type}[BEq α][LawfulBEq α](l:List α)(x:α)(h:x∉l):(l.map λy=>(y,Value.bool true)).lookup x=none:=by
 induction l with
 | nil=>rfl
 | cons y l ih=>
  have hb:(x == y)=false:=by
   rw[beq_eq_false_iff_ne]; intro e; exact h (by simp[e])
  rw[List.map_cons,List.lookup_cons,hb];exact ih (λhm=>h (mQ _ hm))
def Np.ja(p:Np.Placed):Int×List UInt8:=(p.host,p.zone.apex)
def Np.Dt(n:Nat)(p:Np.Placed):Prop:=(0<=p.host/\p.host<n)/\Np.VZone p.zone
def Np.pk(n:Nat)(l:List Np.Placed):Prop:=(∀ p∈l,Np.Dt n p)/\l.Pairwise λp q=>¬ (p.host=q.host/\p.zone.apex=q.zone.apex)
theorem aMJ{n k:Nat}{l:List Np.Placed}{x:Np.Placed}(hx:l[k]?=some x)(h:Np.pk n l):Np.Dt n x/\Np.ja x∉(l.take k).map Np.ja:=by
 refine⟨h.1 x (gQ hx),λhm=>?_⟩;obtain⟨y,hy,he⟩:=List.mem_map.1 hm;have h1:(l.take k ++ [x]).Pairwise λp q=>¬ (p.host=q.host/\p.zone.apex=q.zone.apex):=by
  obtain⟨hl,he⟩:=cQ.1 hx
  have:l.take k ++ [x]=l.take (k+1):=by rw[fQ hl,he]
  rw[this];exact h.2.sublist (List.take_sublist _ _)
 have h2:=(List.pairwise_append.1 h1).2.2 y hy x (by simp);unfold Np.ja at he;simp only[Prod.mk.injEq] at he;exact h2 he
theorem aMK{n k:Nat}{l:List Np.Placed}{x:Np.Placed}(hx:l[k]?=some x)(h:Np.pk n (l.take k))(h1:Np.Dt n x)(h2:Np.ja x∉(l.take k).map Np.ja):Np.pk n (l.take (k+1)):=by
 obtain⟨hl,he⟩:=cQ.1 hx;have ht:l.take (k+1)=l.take k ++ [x]:=by rw[fQ hl,he]
 rw[ht];refine⟨λp hp=>?_,List.pairwise_append.2 ⟨h.2,by simp,λy hy z hz PQ=>?_⟩⟩
 ·rcases List.mem_append.1 hp with hp | hp
  ·exact h.1 p hp
  ·rw[List.mem_singleton] at hp; subst hp; exact h1
 ·rw[List.mem_singleton] at hz; subst hz;exact h2 (List.mem_map.2 ⟨y,hy,by unfold Np.ja; simp[PQ.1,PQ.2]⟩)
theorem aLK(hv:Value)(n:Nat)(hn:∃ A c,hv = .slice A n c)(zv:Value)(l:List Np.Placed)(sv:Value)(ty life:Int)(dv dh:Value)(s:ByteArray)(ax:sv = .string s)(hl:l.length<=500)(hz:∀ p∈l,p.zone.sets.length<=20000)(w:World)(hR:iS w w.heap.size)(hd:SlR jm 3 w w.heap.size zv l) :
 Calls prog 74 #[.agg #[hv,zv,sv,.int .i64 ty,.int .i64 life,dv,dh]] w λe w'=>e = .returned (.bool (Np.yes (Np.pk n l)))/\Below w.heap.size w w':=by
 obtain⟨r,hr⟩:∃ r,Np.yes (Np.pk n l)=r:=⟨_,rfl⟩;rw[hr];have HR:=jq hr;have HD:=jq hd;have f9:=jq hR;have HZ:=jq hz;obtain⟨Ah,ch,rfl⟩:=hn;obtain⟨A,c,rfl,aV,bi⟩:=ah hd;subst ax;clear hr hd hR hz;have a3J:∀ (w:World),(Instr.makeMap 185 none).run prog w = .ok (.map (some w.heap.size)) (w.alloc (.map #[] 0)):=λw=>by
  simp[Instr.makeMap,Result.andThen]
 have a3K:∀ (w:World),(Instr.makeMap 151 none).run prog w = .ok (.map (some w.heap.size)) (w.alloc (.map #[] 0)):=λw=>by
  simp[Instr.makeMap,Result.andThen]
 have gw:decide (4000<(l.length:Int))=false:=tQ (by omega);go_enter func74,ntmps74;go_wp2_with fail;obtain⟨w1,ak⟩:∃ w1,((w.alloc (.cells #[.slice Ah n ch,.slice A l.length c,.string s,.int .i64 ty,.int .i64 life,dv,dh] 34)).alloc (.map #[] 0)).alloc (.map #[] 0)=w1:=⟨_,rfl⟩;obtain⟨X,hX⟩:∃ X,w.heap.size=X:=⟨_,rfl⟩;obtain⟨X1,pw⟩:∃ X1,X+1=X1:=⟨_,rfl⟩;obtain⟨X2,Ec⟩:∃ X2,X1+1=X2:=⟨_,rfl⟩;have uX:Hid (jO X1 [] w1):=jq (by
  rw[<-ak,<-pw,<-hX];have h0:=jO.made (w.alloc (.cells #[.slice Ah n ch,.slice A l.length c,.string s,.int .i64 ty,.int .i64 life,dv,dh] 34));rw[show w.heap.size+1=(w.alloc (.cells #[.slice Ah n ch,.slice A l.length c,.string s,.int .i64 ty,.int .i64 life,dv,dh] 34)).heap.size by simp];exact h0.keep ((vQ _ _).alloc (bQ _) _) (by simp))
 have TU:Hid (kn X2 0 w1):=jq (by
  rw[<-ak,<-Ec,<-pw,<-hX];have h0:=kn.made ((w.alloc (.cells #[.slice Ah n ch,.slice A l.length c,.string s,.int .i64 ty,.int .i64 life,dv,dh] 34)).alloc (.map #[] 0));simpa using h0)
 have ay:Hid (Below X w w1):=jq (by rw[<-ak,<-hX]; exact (((vQ _ _).alloc (bQ _) _).alloc (by simp) _).alloc (by simp; omega) _);have SL:Hid (w1.cell? ⟨X,0,none⟩=some (.slice Ah n ch)):=jq (by rw[<-ak,<-hX]; simp[go_sem]);have bL:X2<w1.heap.size:=by rw[<-ak,<-Ec,<-pw,<-hX]; simp
 rw[ak,hX,pw,Ec];have OY:X<X1:=by omega
 have a1J:X1<X2:=by omega
 rw[hX] at HD f9;have lP:=jq hX;clear ak pw Ec;go_loopw [17] (λi wr=>∃ k:Nat,k<=l.length/\i = .int .i64 k/\Hid (Below X w wr)/\X2<wr.heap.size/\Hid (wr.cell? ⟨X,0,none⟩=some (.slice Ah n ch))/\Hid (jO X1 (((l.take k).map Np.ja).map λy=>(y,Value.bool true)) wr)/\Hid (kn X2 k wr)/\Hid (Np.pk n (l.take k))) (λi _=>l.length - (intOf i).toNat)
 case atStart=>exact⟨0,jQ _,rfl,ay,bL,SL,uX,TU,jq ⟨λp hp=>by simp at hp,by simp⟩⟩
 case round=>
  obtain⟨k,hk,rfl,HB,dz,HC,HM,HN,HV⟩:=hrel;have Ei:=HC.out;by_cases aa:k<l.length
  ·obtain⟨x,ac⟩:∃ x,l[k]?=some x:=⟨_,aQ aa⟩;obtain⟨b,o,sn,vz,rfl,bS,av,cA,eq,f0,f1,f2⟩:=Cz (HD.out.keep fV HB.out) ac;have mq:=jq (aMJ (n:=n) (k:=k) ac);have cI:=jq (λh1 h2=>aMK ac HV.out h1 h2);have HF:Hid (¬ Np.Dt n x->r=false):=jq (λh=>by rw[<-HR.out]; exact Np.aJ λq=>h (mq.out q).1);have ri:Hid (Np.ja x∈(l.take k).map Np.ja->r=false):=jq (λh=>by rw[<-HR.out]; exact Np.aJ λq=>(mq.out q).2 h);have HT:Hid ((l.take (k+1)).map Np.ja=(l.take k).map Np.ja ++ [Np.ja x]):=jq (by
    obtain⟨hl,he⟩:=cQ.1 ac;rw[fQ hl,he,List.map_append]; rfl)
   have AI:Hid (x.zone.sets.length<=20000):=jq (HZ.out x (gQ ac));have pa:Hid (Np.ja x=(x.host,sn.data.toList)):=jq (by unfold Np.ja; rw[av]);obtain⟨Az,cz,rfl,_,_⟩:=ah eq;obtain⟨nz,kC⟩:∃ nz,x.zone.sets.length=nz:=⟨_,rfl⟩;have aH:=jq av;rw[kC] at f2;have jk:Hid (SlR bC 5 wr wr.heap.size (.slice Az nz cz) x.zone.sets):=jq (by rw[<-kC]; exact eq.more bN (by have:=HB.out.size; omega));obtain⟨w2,aj⟩:∃ w2,wr.alloc (.cells #[.int .i64 x.host,.string sn,.slice Az nz cz] 60)=w2:=⟨_,rfl⟩;obtain⟨w3,eY⟩:∃ w3,w2.alloc (.cells #[.int .i64 x.host,.string sn] 187)=w3:=⟨_,rfl⟩;have aM:w2.heap.size=wr.heap.size+1:=by rw[<-aj]; simp
   have er:w3.heap.size=w2.heap.size+1:=by rw[<-eY]; simp
   have ab:Below wr.heap.size wr w2:=by rw[<-aj]; exact (vQ _ _).alloc (bQ _) _
   have ag:Below wr.heap.size wr w3:=by rw[<-eY]; exact ab.alloc (by omega) _
   have p0:w2.cell? ⟨wr.heap.size,0,none⟩=some (.int .i64 x.host):=by rw[<-aj]; simp[go_sem]
   have p1:w2.cell? ⟨wr.heap.size,1,none⟩=some (.string sn):=by rw[<-aj]; simp[go_sem]
   have q0:w3.cell? ⟨wr.heap.size,0,none⟩=some (.int .i64 x.host):=by rw[<-eY,<-p0]; simp[go_sem,aM]
   have q1:w3.cell? ⟨wr.heap.size,1,none⟩=some (.string sn):=by rw[<-eY,<-p1]; simp[go_sem,aM]
   have q2:w3.cell? ⟨wr.heap.size,2,none⟩=some (.slice Az nz cz):=by rw[<-eY,<-aj]; simp[go_sem]
   have r0:w3.cell? ⟨wr.heap.size+1,0,none⟩=some (.int .i64 x.host):=by rw[<-eY,<-aM]; simp[go_sem]
   have r1:w3.cell? ⟨wr.heap.size+1,1,none⟩=some (.string sn):=by rw[<-eY,<-aM]; simp[go_sem]
   have Ow:w3.cell? ⟨X,0,none⟩=some (.slice Ah n ch):=(ag.cell (by dsimp only; omega)).trans Ei;have ar:=jq (HB.out.trans (ag.mono (by omega)));have qj:Hid (jO X1 (((l.take k).map Np.ja).map λy=>(y,Value.bool true)) w3):=jq (HM.out.keep ag (by omega));have ta:Hid (kn X2 k w3):=jq (HN.out.keep ag dz);have mx:Hid (SlR bC 5 w3 w3.heap.size (.slice Az nz cz) x.zone.sets):=jq ((jk.out.keep aN ag).more bN ag.size);have x6:Hid (X2<w3.heap.size):=jq (by omega);have iI:(Instr.lookup 185 (.map (some X1)) (.agg #[.int .i64 x.host,.string sn]) false).run prog w3 = .ok (.bool (decide ((x.host,sn.data.toList)∈(l.take k).map Np.ja))) w3:=by
    have:=aBZ w3 185 4 underlying185 X1 _ qj.out (x.host,sn.data.toList) (.bool false) (by kernel_rfl)
    rw[Qs] at this;exact this
   rw[<-pa.out] at iI;clear ac av eq ab ag kC HM HN jk;by_cases g1:x.host<0
   ·have d1:decide (x.host<0)=true:=uQ g1;have HX:Hid (r=false):=jq (HF.out λh=>by have:=h.1; omega);clear g1;go_wp2_with fail;go_ret;exact⟨ae HX.out.symm,by rw[lP.out]; exact ar.out⟩
   ·have d1:decide (x.host<0)=false:=tQ g1;by_cases g2:(n:Int)<=x.host
    ·have d2:decide ((n:Int)<=x.host)=true:=uQ g2;have HX:Hid (r=false):=jq (HF.out λh=>by have:=h.1; omega);clear g1 g2;go_wp2_with fail;go_ret;exact⟨ae HX.out.symm,by rw[lP.out]; exact ar.out⟩
    ·have d2:decide ((n:Int)<=x.host)=false:=tQ g2;have HG:Hid (0<=x.host/\x.host<n):=jq (by omega);clear g1 g2;by_cases g3:Np.ja x∈(l.take k).map Np.ja
     ·rw[uQ g3] at iI;have HX:Hid (r=false):=jq (ri.out g3);clear g3;go_wp2_with fail;go_ret;exact⟨ae HX.out.symm,by rw[lP.out]; exact ar.out⟩
     ·rw[tQ g3] at iI;have km:=jq g3;clear g3;go_wp2_with fail;refine (Sd sn cA _ x.zone.sets AI.out w3 ((f9.out.keep ar.out).more (by have:=ar.out.size; omega)) mx.out).mono ?_;rintro e w4 ⟨rfl,an⟩;have gC:w3.heap.size<=w4.heap.size:=an.size;have s0:w4.cell? ⟨wr.heap.size,0,none⟩=some (.int .i64 x.host):=(an.cell (by dsimp only; omega)).trans q0;have s1:w4.cell? ⟨wr.heap.size,1,none⟩=some (.string sn):=(an.cell (by dsimp only; omega)).trans q1;have s2:w4.cell? ⟨wr.heap.size,2,none⟩=some (.slice Az nz cz):=(an.cell (by dsimp only; omega)).trans q2;have t0:w4.cell? ⟨wr.heap.size+1,0,none⟩=some (.int .i64 x.host):=(an.cell (by dsimp only; omega)).trans r0;have t1:w4.cell? ⟨wr.heap.size+1,1,none⟩=some (.string sn):=(an.cell (by dsimp only; omega)).trans r1;have bq:=jq (ar.out.trans (an.mono (by omega)));have GV:Hid (jO X1 (((l.take k).map Np.ja).map λy=>(y,Value.bool true)) w4):=jq (qj.out.keep an (by omega));have rt:Hid (kn X2 k w4):=jq (ta.out.keep an x6.out);have vT:w4.cell? ⟨X,0,none⟩=some (.slice Ah n ch):=(an.cell (by dsimp only; omega)).trans Ow;have dj:=jq vT;clear an p0 p1 q0 q1 q2 r0 r1 aj eY f0 f1 f2 iI Ow qj ta;obtain⟨rz,fq⟩:∃ rz,Np.yes (Np.VZone ⟨sn.data.toList,x.zone.sets⟩)=rz:=⟨_,rfl⟩;rw[fq];have gX:=jq fq;clear fq
      cases rz with
      | false=>
       have HX:Hid (r=false):=jq (HF.out λh=>by
        have h1:=h.2;have h2:x.zone=⟨sn.data.toList,x.zone.sets⟩:=by rw[aH.out]
        rw[h2] at h1;have h3:=Np.bM h1;rw[gX.out] at h3
        cases h3)
       go_wp2_with fail;go_ret;exact⟨ae HX.out.symm,by rw[lP.out]; exact bq.out⟩
      | true=>
       have fK:Hid (Np.pk n (l.take (k+1))):=jq (cI.out ⟨HG.out,by
        have h2:x.zone=⟨sn.data.toList,x.zone.sets⟩:=by rw[aH.out]
        rw[h2];exact Np.fz.1 gX.out⟩ km.out)
       have T1:Hid ((((l.take k).map Np.ja).map λy=>(y,Value.bool true)).lookup (x.host,sn.data.toList)=none):=jq (by rw[<-pa.out]; exact Qr _ _ km.out);go_wp2_with (at_mapUpdate; first
        | (refine aQK _ rfl _ _ _ 185 rfl 4 underlying185 X1 _ rfl GV.out (x.host,sn.data.toList) rfl (.bool true) rfl T1.out ?_; intro w5 lY mc; have s1':w5.cell? ⟨wr.heap.size,1,none⟩=some (.string sn):=(mc.cell (by dsimp only; omega)).trans s1; have H5:=jq (And.intro lY mc); have TV:=jq (rt.out.turned mc (by omega)); clear lY mc s0 s1 s2 t0 t1 vT)
        | (refine aQJ _ rfl _ _ _ 151 rfl 9 4 underlying151 underlying9 X2 k rfl TV.out sn.data.toList rfl (.bool true) rfl ?_; intro w6 O2 PA; have H6:=jq (And.intro O2 PA); clear O2 PA))
       go_roundw
       case rel=>
        refine⟨k+1,by omega,by go_num,jq (((bq.out.trans (H5.out.2.below (by omega))).trans (H6.out.2.below (by omega)))),by rw[H6.out.2.size,H5.out.2.size]; have:=x6.out; omega,jq ((H6.out.2.cell (by dsimp only; omega)).trans ((H5.out.2.cell (by dsimp only; omega)).trans dj.out)),jq ?_,jq H6.out.1,fK⟩;have h1:=H5.out.1.keep' (w':=w6) (H6.out.2.block _ (by omega));rw[HT.out,List.map_append,pa.out];exact h1
       case measure=>simp[intOf] <;> omega
  ·have UM:Hid (Np.pk n l):=jq (by have:=HV.out; rwa [kQ (by omega)] at this);obtain⟨es,ce,kvs,hes,_,am⟩:=HN.out;have Yq:decide ((es.size:Int)<=500)=true:=uQ (by omega);have Ew:(Builtin.len_ #[151] 3 #[.map (some X2)]).run prog wr = .ok (.int .i64 (es.size:Int)) wr:=by
    simp[Builtin.len_,run_underlying underlying151,MapKept.run_getObj_map hes,Result.andThen,goInt]
   obtain⟨m5,lY⟩:∃ m5,es.size=m5:=⟨_,rfl⟩;rw[lY] at Ew Yq;clear hes lY;go_wp2_with fail;go_ret;exact⟨ae (by rw[<-HR.out]; exact (Np.bM UM.out).symm),by rw[lP.out]; exact HB.out⟩
def dD(W:World)(B:Nat)(e:List Value)(c:Np.Copy):Prop:=∃ (s:ByteArray) (v:Value),s.data.toList=c.zone.apex/\s.size<=140737488355328/\SlR bC 5 W B v c.zone.sets/\e = [.int .i64 c.host,.int .i64 c.frm,.int .i64 c.til,.string s,v]
theorem fu:dw dD:=λ_ _ _ _ _ ⟨s,v,h1,h2,h3,h5⟩ hb=>⟨s,v,h1,h2,h3.keep aN hb,h5⟩
theorem jD:dN dD:=λ_ _ _ _ _ ⟨s,v,h1,h2,h3,h5⟩ hb=>⟨s,v,h1,h2,h3.more bN hb,h5⟩
theorem rI{w:World}{B n c:Nat}{A:Option Addr}{xs:List Np.Copy}(h:SlR dD 5 w B (.slice A n c) xs){k:Nat}{x:Np.Copy}(hx:xs[k]?=some x):∃ (b o:Nat) (s:ByteArray) (v:Value),A=some ⟨b,o,none⟩/\b<B/\s.data.toList=x.zone.apex/\s.size<=140737488355328/\SlR bC 5 w B v x.zone.sets/\w.cell? ⟨b,o+k * 5,none⟩=some (.int .i64 x.host)/\w.cell? ⟨b,o+k * 5+1,none⟩=some (.int .i64 x.frm)/\w.cell? ⟨b,o+k * 5+2,none⟩=some (.int .i64 x.til)/\w.cell? ⟨b,o+k * 5+3,none⟩=some (.string s)/\w.cell? ⟨b,o+k * 5+4,none⟩=some v:=by
 obtain⟨A',c',hA',_,_,br⟩:=h
 cases hA'
 obtain⟨b,o,e,hA,bZ,hlen,hce,s,v,h1,h2,h3,he⟩:=br k _ hx;subst he;exact⟨b,o,s,v,hA,bZ,h1,h2,h3,hce 0 _ rfl,hce 1 _ rfl,hce 2 _ rfl,hce 3 _ rfl,hce 4 _ rfl⟩
theorem Ve(h f u:Int)(s:ByteArray)(v:Value)(w:World) :
 Calls prog 50 #[.agg #[.int .i64 h,.int .i64 f,.int .i64 u,.string s,v]] w λe w'=>e = .returned (.string s)/\Below w.heap.size w w':=by
 have HB:Hid (∀ o,Below w.heap.size w (w.alloc o)):=jq (λo=>(vQ _ w).alloc (bQ _) _);go_enter func50,ntmps50;go_wp2_with fail;go_ret;exact⟨rfl,HB.out _⟩
theorem cE.turned{base r:Nat}{w w':World}{v:Value}{ps:List (List UInt8)}(h:cE base w v ps)(ht:Turned r w w')(hr:r<base):cE base w' v ps:=fU h (λg hg=>ht.block g (by have:=(h.lt g hg).1; omega))
theorem cE.weak{base base':Nat}{w:World}{v:Value}{ps:List (List UInt8)}(h:cE base w v ps)(hb:base'<=base):cE base' w v ps:=by
 refine⟨h.1,?_⟩;rcases h.2 with h2 | ⟨g,cap,cur,h1,h2,h3⟩
 ·exact .inl h2
 ·exact .inr ⟨g,cap,cur,h1,yQ hb h2,h3⟩
def CN(ks:List (List UInt8)):List (List UInt8×Value):=ks.map λy=>(y,Value.bool true)
theorem RJ(v:Value)(l:List Np.Copy)(bV:l.length<=20000)(w:World)(h:SlR dD 5 w w.heap.size v l) :
 Calls prog 49 #[v,.func (.func 50) #[] #[]] w λe w'=>∃ v',e = .returned v'/\cE w.heap.size w' v' (Np.cx (l.map (·.zone.apex)))/\Below w.heap.size w w':=by
 have HD:=jq h;obtain⟨A,c,rfl,aV,bi⟩:=ah h;clear h;have wL:∀ (w:World),(Instr.makeMap 151 none).run prog w = .ok (.map (some w.heap.size)) (w.alloc (.map #[] 0)):=λw=>by
  simp[Instr.makeMap,Result.andThen]
 have n7:Hid (∀ k,(Np.cx ((l.take k).map (·.zone.apex))).length<=20000):=jq (λk=>by
  have h1:=Np.zp ((l.take k).map (·.zone.apex));rw[List.length_map,List.length_take] at h1;omega)
 go_enter func49,ntmps49;go_wp2_with fail;have uX:=jq (dM.made w);have ay:Hid (Below w.heap.size w (w.alloc (.map #[] 0))):=jq ((vQ _ w).alloc (bQ _) _);have bL:w.heap.size<(w.alloc (.map #[] 0)).heap.size:=by simp
 generalize w.alloc (.map #[] 0)=w1 at *;go_loopw [6,13] (λvo i wr=>∃ k:Nat,k<=l.length/\i = .int .i64 k/\Hid (Below w.heap.size w wr)/\w.heap.size<wr.heap.size/\Hid (dM w.heap.size (CN (Np.cx ((l.take k).map (·.zone.apex)))) wr)/\Hid (cE (w.heap.size+1) wr vo (Np.cx ((l.take k).map (·.zone.apex))))) (λ_ i _=>l.length - (intOf i).toNat)
 case atStart=>exact⟨0,jQ _,rfl,ay,bL,uX,jq ⟨by simp[Np.cx],.inl ⟨rfl,rfl⟩⟩⟩
 case round=>
  obtain⟨k,hk,rfl,HB,dz,HM,HO⟩:=hrel;by_cases aa:k<l.length
  ·obtain⟨x,ac⟩:∃ x,l[k]?=some x:=⟨_,aQ aa⟩;obtain⟨b,o,sn,vz,rfl,bS,av,cA,eq,f0,f1,f2,f3,f4⟩:=rI (HD.out.keep fu HB.out) ac;obtain⟨Az,cz,rfl,_,_⟩:=ah eq;obtain⟨nz,kC⟩:∃ nz,x.zone.sets.length=nz:=⟨_,rfl⟩;rw[kC] at f4;obtain⟨ks,tN⟩:∃ ks,Np.cx ((l.take k).map (·.zone.apex))=ks:=⟨_,rfl⟩;have HT:Hid (Np.cx ((l.take (k+1)).map (·.zone.apex))=Np.jR ks sn.data.toList):=jq (by
    obtain⟨hl,he⟩:=cQ.1 ac;rw[fQ hl,he,List.map_append,<-tN,av];exact Np.K5 _ _)
   have rr:Hid (ks.length<=20000):=jq (by rw[<-tN]; exact n7.out k);rw[tN] at HM HO;obtain⟨w2,aj⟩:∃ w2,wr.alloc (.cells #[.int .i64 x.host,.int .i64 x.frm,.int .i64 x.til,.string sn,.slice Az nz cz] 58)=w2:=⟨_,rfl⟩;have ab:Below wr.heap.size wr w2:=by rw[<-aj]; exact (vQ _ _).alloc (bQ _) _
   have aM:wr.heap.size<w2.heap.size:=by rw[<-aj]; simp
   have p0:w2.cell? ⟨wr.heap.size,0,none⟩=some (.int .i64 x.host):=by rw[<-aj]; simp[go_sem]
   have p1:w2.cell? ⟨wr.heap.size,1,none⟩=some (.int .i64 x.frm):=by rw[<-aj]; simp[go_sem]
   have p2:w2.cell? ⟨wr.heap.size,2,none⟩=some (.int .i64 x.til):=by rw[<-aj]; simp[go_sem]
   have p3:w2.cell? ⟨wr.heap.size,3,none⟩=some (.string sn):=by rw[<-aj]; simp[go_sem]
   have p4:w2.cell? ⟨wr.heap.size,4,none⟩=some (.slice Az nz cz):=by rw[<-aj]; simp[go_sem]
   have al:=jq ab;have am:=HB.out.size;clear ac av eq kC tN ab;go_wp2_with fail;refine (Ve _ _ _ _ _ _).mono ?_;rintro e w3 ⟨rfl,ag⟩;have ar:=jq (al.out.trans (ag.mono (by omega)));have er:wr.heap.size<w3.heap.size:=by have:=ag.size; omega
   have qj:Hid (dM w.heap.size (CN ks) w3):=jq (HM.out.keep ar.out dz);have lL:Hid (cE (w.heap.size+1) w3 _ ks):=jq (HO.out.keep ar.out);clear ag aj p0 p1 p2 p3 p4 f0 f1 f2 f3 f4;have l7:=KF (P:=prog) w3 151 9 4 underlying151 underlying9 w.heap.size _ qj.out sn.data.toList (.bool false) (by kernel_rfl);unfold CN at l7;rw[Qs] at l7;by_cases hin:sn.data.toList∈ks
   ·have mZ:Hid (Np.cx ((l.take (k+1)).map (·.zone.apex))=ks):=jq (by rw[HT.out,Np.Ig hin]);rw[uQ hin] at l7;clear hin;go_wp2_with fail;go_roundw
    case rel=>exact⟨k+1,by omega,by go_num,jq (HB.out.trans (ar.out.mono (by omega))),by omega,jq (by rw[mZ.out]; exact qj.out),jq (by rw[mZ.out]; exact lL.out)⟩
    case measure=>simp[intOf] <;> omega
   ·have mZ:Hid (Np.cx ((l.take (k+1)).map (·.zone.apex))=ks ++ [sn.data.toList]):=jq (by rw[HT.out,Np.jR,Qc hin]);have km:Hid ((CN ks).lookup sn.data.toList=none):=jq (Qr _ _ hin);rw[tQ hin] at l7;clear hin;go_wp2_with (first
     | (at_mapUpdate; refine R3 _ rfl _ _ _ 151 rfl 9 4 underlying151 underlying9 w.heap.size _ rfl qj.out sn.data.toList rfl (.bool true) rfl km.out ?_; intro w5 lY mc; have H5:=jq (And.intro lY mc); have ru:Hid (cE (w.heap.size+1) w5 _ ks):=jq (cE.turned lL.out mc (by omega)); have me:wr.heap.size<w5.heap.size:=(by rw[mc.size]; exact er); clear lY mc)
     | (at_builtin; refine zu _ rfl _ _ rfl (w.heap.size+1) _ ks rfl (ru.out.alloc _) w5.heap.size sn.data.toList (by simp[go_sem]) (by simp[go_sem]) (by have:=rr.out; omega) (by simp; omega) ?_; intro v6 w6 qG aU; have H6:=jq (And.intro qG aU); clear qG aU))
    go_roundw
    case rel=>exact⟨k+1,by omega,by go_num,jq ((((HB.out.trans (ar.out.mono (by omega))).trans (H5.out.2.below (bQ _))).alloc (by omega) _).trans (H6.out.2.mono (by omega))),by have:=H6.out.2.size; simp at this; omega,jq (by rw[mZ.out]; unfold CN; rw[List.map_append]; exact (H5.out.1.keep ((vQ _ _).alloc (bQ _) _) (by omega)).keep H6.out.2 (by omega)),jq (by rw[mZ.out]; exact H6.out.1)⟩
    case measure=>simp[intOf] <;> omega
  ·have HE':Hid (l.take k=l):=jq (kQ (by omega));go_wp2_with fail;go_ret;exact⟨_,rfl,by have:=HO.out.weak (Nat.le_succ _); rw[HE'.out] at this; exact this,HB.out⟩
theorem aNZ{w:Np.WorldP} : Np.VWorld w↔(Np.VHosts w.hosts/\Np.pk w.hosts.length w.zones)/\Np.VRoot w.anchor w.hints:=
 ⟨λh=>⟨⟨h.hosts,h.each,h.apart⟩,h.root⟩,λh=>⟨h.1.1,h.2,h.1.2.1,h.1.2.2⟩⟩
theorem aOQ(hv:Value)(hs:List Np.Host)(zv:Value)(l:List Np.Placed)(s:ByteArray)(am:s.size<=140737488355328)(ty life:Int)(dv:Value)(d:List Np.Datum)(dh:Value)(hints:List Int)(hl:l.length<=500)(hz:∀ p∈l,p.zone.sets.length<=20000)(w:World)(hR:iS w w.heap.size)
 (hh:SlR gb 3 w w.heap.size hv hs) (hd:SlR jm 3 w w.heap.size zv l) (hdd:SlR cr 3 w w.heap.size dv d) (pB:SlR gJ 1 w w.heap.size dh hints) :
 Calls prog 27 #[.agg #[hv,zv,.string s,.int .i64 ty,.int .i64 life,dv,dh]] w λe w'=>e = .returned (.bool (Np.yes (Np.VWorld ⟨hs,l,⟨s.data.toList,ty,life,d⟩,hints⟩)))/\Below w.heap.size w w':=by
 obtain⟨r,hr⟩:∃ r,Np.yes (Np.VWorld ⟨hs,l,⟨s.data.toList,ty,life,d⟩,hints⟩)=r:=⟨_,rfl⟩;rw[hr];have HR:Hid (Np.yes ((Np.VHosts hs/\Np.pk hs.length l)/\Np.VRoot ⟨s.data.toList,ty,life,d⟩ hints)=r):=jq (by rw[<-hr]; exact (Np.uB (aNZ (w:=⟨hs,l,⟨s.data.toList,ty,life,d⟩,hints⟩))).symm);have HH:=jq hh;have HD:=jq hd;have qg:=jq hdd;have qi:=jq pB;have f9:=jq hR;obtain⟨A1,c1,rfl,_,_⟩:=ah hh;obtain⟨A2,c2,rfl,_,_⟩:=ah hd;obtain⟨A3,c3,rfl,_,_⟩:=ah hdd;obtain⟨A4,c4,rfl,_,_⟩:=ah pB;clear hr hd hR hh hdd pB;obtain⟨W1,ai⟩:∃ W1,w.alloc (.cells #[.slice A1 hs.length c1,.slice A2 l.length c2,.string s,.int .i64 ty,.int .i64 life,.slice A3 d.length c3,.slice A4 hints.length c4] 34)=W1:=⟨_,rfl⟩;have aG:Below w.heap.size w W1:=by rw[<-ai]; exact (vQ _ _).alloc (bQ _) _
 have jA:W1.heap.size=w.heap.size+1:=by rw[<-ai]; simp
 obtain⟨n1,aO⟩:∃ n,hs.length=n:=⟨_,rfl⟩;obtain⟨n2,be⟩:∃ n,l.length=n:=⟨_,rfl⟩;obtain⟨n3,cP⟩:∃ n,d.length=n:=⟨_,rfl⟩;obtain⟨n4,cW⟩:∃ n,hints.length=n:=⟨_,rfl⟩;rw[aO,be,cP,cW] at ai;rw[aO] at HH HR;rw[be] at HD;rw[cP] at qg;rw[cW] at qi;rw[aO,be,cP,cW];have k0:W1.cell? ⟨w.heap.size,0,none⟩=some (.slice A1 n1 c1):=by rw[<-ai]; simp[go_sem]
 have k1:W1.cell? ⟨w.heap.size,1,none⟩=some (.slice A2 n2 c2):=by rw[<-ai]; simp[go_sem]
 have k2:W1.cell? ⟨w.heap.size,2,none⟩=some (.string s):=by rw[<-ai]; simp[go_sem]
 have k3:W1.cell? ⟨w.heap.size,3,none⟩=some (.int .i64 ty):=by rw[<-ai]; simp[go_sem]
 have k4:W1.cell? ⟨w.heap.size,4,none⟩=some (.int .i64 life):=by rw[<-ai]; simp[go_sem]
 have k5:W1.cell? ⟨w.heap.size,5,none⟩=some (.slice A3 n3 c3):=by rw[<-ai]; simp[go_sem]
 have k6:W1.cell? ⟨w.heap.size,6,none⟩=some (.slice A4 n4 c4):=by rw[<-ai]; simp[go_sem]
 have aB:=jq aG;have HN:=jq (And.intro aO (And.intro be (And.intro cP cW)));clear aG aO be cP cW;go_enter func27,ntmps27;go_wp2_with fail;refine (aLY _ hs _ (HH.out.later fw kP aB.out)).mono ?_;rintro e w2 ⟨rfl,ab⟩;replace k0:=(cl ab (by omega)).trans k0;replace k1:=(cl ab (by omega)).trans k1;replace k2:=(cl ab (by omega)).trans k2;replace k3:=(cl ab (by omega)).trans k3;replace k4:=(cl ab (by omega)).trans k4;replace k5:=(cl ab (by omega)).trans k5;replace k6:=(cl ab (by omega)).trans k6;have aM:=ab.size;have al:=jq (aB.out.trans (ab.mono (by omega)));clear ab ai;obtain⟨b1,ap⟩:∃ b1,Np.yes (Np.VHosts hs)=b1:=⟨_,rfl⟩;rw[ap];have th:=jq ap;clear ap
 cases b1 with
 | false=>
  have HX:Hid (r=false):=jq (by rw[<-HR.out]; exact Np.aJ λq=>by have:=Np.bM q.1.1; rw[th.out] at this; cases this);go_wp2_with fail;go_ret;exact⟨ae HX.out.symm,al.out⟩
 | true=>
  go_wp2_with fail;refine (aLK _ n1 ⟨_,_,rfl⟩ _ l _ ty life _ _ s rfl hl hz _ ((f9.out.keep al.out).more al.out.size) (HD.out.later fV fW al.out)).mono ?_;rintro e w3 ⟨rfl,ag⟩;replace k0:=(cl ag (by omega)).trans k0;replace k1:=(cl ag (by omega)).trans k1;replace k2:=(cl ag (by omega)).trans k2;replace k3:=(cl ag (by omega)).trans k3;replace k4:=(cl ag (by omega)).trans k4;replace k5:=(cl ag (by omega)).trans k5;replace k6:=(cl ag (by omega)).trans k6;have er:=ag.size;have ar:=jq (al.out.trans (ag.mono (by omega)));clear ag;obtain⟨b2,ab⟩:∃ b2,Np.yes (Np.pk n1 l)=b2:=⟨_,rfl⟩;rw[ab];have AG:=jq ab;clear ab
  cases b2 with
  | false=>
   have HX:Hid (r=false):=jq (by rw[<-HR.out]; exact Np.aJ λq=>by have:=Np.bM q.1.2; rw[AG.out] at this; cases this);go_wp2_with fail;go_ret;exact⟨ae HX.out.symm,ar.out⟩
  | true=>
   go_wp2_with fail;refine (aMQ s am ty life _ d _ hints _ ((f9.out.keep ar.out).more ar.out.size) (qg.out.later cB cZ ar.out) (qi.out.later kR sI ar.out)).mono ?_;rintro e w4 ⟨rfl,an⟩;have bq:=jq (ar.out.trans (an.mono ar.out.size));clear an;have HX:Hid (Np.yes (Np.VRoot ⟨s.data.toList,ty,life,d⟩ hints)=r):=jq (by
    rw[<-HR.out];exact Np.uB ⟨λq=>⟨⟨Np.fz.1 th.out,Np.fz.1 AG.out⟩,q⟩,λq=>q.2⟩)
   rw[HX.out];go_wp2_with fail;go_ret;exact⟨rfl,bq.out⟩
end
section
open Go.RowKit
theorem QS:∀ (o:List (List UInt8)) (a:List UInt8) (q:Nat) (hq:q<o.length),(∀ t (h:t<o.length),t<q->Np.aI o[t] a<0)->o[q]=a->Np.eD o a=o
 | [],_,_,hq,_,_=>by simp at hq
 | x::l,a,0,_,_,he=>by
   simp at he;subst he;rw[Np.eD,Qc (by rw[Np.fd.self]; omega),Qb rfl]
 | x::l,a,q+1,hq,aa,he=>by
   have h0:=aa 0 (by simp) (by omega);rw[Np.eD,Qb (by simpa using h0),QS l a q (by simpa using hq) (λt h ht=>aa (t+1) (by simpa using h) (by omega)) (by simpa using he)]
theorem KA:∀ (o:List (List UInt8)) (a:List UInt8) (q:Nat),q<=o.length->(∀ t (h:t<o.length),t<q->Np.aI o[t] a<0)->(∀ h:q<o.length,¬ Np.aI o[q] a<0/\o[q]≠a)->Np.eD o a=o.take q++a::o.drop q
 | [],a,q,_,_,_=>by simp[Np.eD]
 | x::l,a,0,_,_,hn=>by
   obtain⟨h1,h2⟩:=hn (by simp);simp at h1 h2;rw[Np.eD,Qc (by omega),Qc h2];rfl
 | x::l,a,q+1,hq,aa,hn=>by
   have h0:=aa 0 (by simp) (by omega);rw[Np.eD,Qb (by simpa using h0),KA l a q (by simpa using hq) (λt h ht=>aa (t+1) (by simpa using h) (by omega)) (λh=>hn (by simpa using h))];rfl
theorem aEX{o:List (List UInt8)}{x:List UInt8}{m:Nat}(hm:m<o.length):(o.take (m+1)++x::o.drop (m+1)).set (m+1) o[m]=o.take m++o[m]::o.drop m:=by
 have h1:(o.take (m+1)).length=m+1:=by rw[List.length_take]; omega
 rw[List.set_append_right _ _ (by omega),h1,Nat.sub_self,List.set_cons_zero,fQ hm,List.append_assoc,sQ hm];rfl
theorem Ro{o:List (List UInt8)}{x a:List UInt8}{q:Nat}(hq:q<=o.length):(o.take q++x::o.drop q).set q a=o.take q++a::o.drop q:=by
 have h1:(o.take q).length=q:=by rw[List.length_take]; omega
 rw[List.set_append_right _ _ (by omega),h1,Nat.sub_self,List.set_cons_zero]
theorem aEY{o:List (List UInt8)}{x:List UInt8}{j t:Nat}(ht:t<j)(hj:j<=o.length):(o.take j++x::o.drop j)[t]?=o[t]?:=by
 rw[List.getElem?_append_left (by rw[List.length_take]; omega),List.getElem?_take_of_lt ht]
theorem Rq{o:List (List UInt8)}{x:List UInt8}{j:Nat}(hj:j<=o.length):(o.take j++x::o.drop j)[j]?=some x:=by
 have h1:(o.take j).length=j:=by rw[List.length_take]; omega
 rw[oQ (by omega),h1,Nat.sub_self]; rfl
theorem Rp{o:List (List UInt8)}{x:List UInt8}{j:Nat}(hj:j<=o.length):(o.take j++x::o.drop j).length=o.length+1:=by
 rw[List.length_append,List.length_cons,List.length_take,List.length_drop]; omega
theorem QQ:∀ (o:List (List UInt8)) (a:List UInt8),(Np.eD o a).length<=o.length+1
 | [],a=>by simp[Np.eD]
 | x::l,a=>by
   rw[Np.eD];split
   ·have:=QQ l a; simp; omega
   ·split <;> simp
theorem IF:∀ (l o:List (List UInt8)),(l.foldl Np.eD o).length<=o.length+l.length
 | [],o=>by simp
 | a::l,o=>by
   have h1:=IF l (Np.eD o a);have h2:=QQ o a;rw[List.foldl_cons,List.length_cons]; omega
theorem NN:∀ (l o:List (List UInt8)) (y:List UInt8),y∈l.foldl Np.eD o->y∈o\/y∈l
 | [],o,y,h=>.inl h
 | a::l,o,y,h=>by
   rcases NN l _ y h with h1 | h1
   ·have:∀ (o:List (List UInt8)),y∈Np.eD o a->y∈o\/y=a:=by
     intro o
     induction o with
     | nil=>intro h; rw[Np.eD,List.mem_singleton] at h; exact .inr h
     | cons x l ih=>
      intro h;rw[Np.eD] at h;split at h
      ·rcases List.mem_cons.1 h with h | h
       ·exact .inl (by rw[h]; simp)
       ·rcases ih h with h | h
        ·exact .inl (mQ _ h)
        ·exact .inr h
      ·split at h
       ·exact .inl h
       ·rcases List.mem_cons.1 h with h | h
        ·exact .inr h
        ·exact .inl h
    rcases this o h1 with h2 | h2
    ·exact .inl h2
    ·exact .inr (by rw[h2]; simp)
   ·exact .inr (mQ _ h1)
theorem Ra{X:Nat}{w:World}{v:Value}{o:List (List UInt8)}{a:List UInt8}{N1:Nat}(h:cE X w v (o ++ [a]))(hN:o.length+1=N1):∃ g cap,v = .slice (some ⟨g,0,none⟩) N1 cap/\w.ownsRow X 9 1 (.slice (some ⟨g,0,none⟩) N1 cap) N1 ((o ++ [a]).map aA):=by
 have e:(o ++ [a]).length=N1:=by simp[hN]
 have h1:w.ownsRow X 9 1 v N1 ((o ++ [a]).map aA):=by rw[<-e]; exact h
 rcases h1.2 with ⟨_,h2⟩ | ⟨g,cap,cur,rfl,_⟩
 ·omega
 ·exact⟨g,cap,rfl,h1⟩
theorem avJ(v:Value)(l:List Np.Copy)(bV:l.length<=20000)(jW:∀ c∈l,c.zone.apex.length<=1000)(w:World)(h:SlR dD 5 w w.heap.size v l) :
 Calls prog 54 #[v] w λe w'=>∃ v',e = .returned v'/\cE w.heap.size w' v' (Np.apexes l)/\Below w.heap.size w w':=by
 rw[<-Np.Ii];have HD:=jq h;have qZ:=jq jW;obtain⟨A,c,rfl,aV,bi⟩:=ah h;clear h jW;obtain⟨X,hX⟩:∃ X,w.heap.size=X:=⟨_,rfl⟩;rw[hX] at HD |-;have lP:=jq hX;clear hX;go_enter func54,ntmps54;go_wp2_with fail;go_loopw [3,4] (λvo i wr=>∃ (k:Nat) (o:List (List UInt8)),k<=l.length/\i = .int .i64 k/\X<=wr.heap.size/\Hid (Below X w wr)/\Hid (cE X wr vo o)/\Hid (((l.take k).map (·.zone.apex)).foldl Np.eD []=o)) (λ_ i _=>l.length - (intOf i).toNat)
 case atStart=>exact⟨0,[],jQ _,rfl,by rw[lP.out]; exact bQ _,jq (vQ _ _),jq ⟨by simp,.inl ⟨rfl,rfl⟩⟩,jq rfl⟩
 case round=>
  obtain⟨k,o,hk,rfl,Bp,HB,HO,HE⟩:=hrel;have oa:Hid (o.length<=20000):=jq (by have:=IF ((l.take k).map (·.zone.apex)) []; rw[HE.out] at this; simp at this; omega);have Ha:Hid (∀ y∈o,y.length<=1000):=jq (λy hy=>by
   rw[<-HE.out] at hy;rcases NN _ _ _ hy with h1 | h1
   ·cases h1
   ·obtain⟨c,hc,rfl⟩:=List.mem_map.1 h1;exact qZ.out c (List.mem_of_mem_take hc))
  by_cases aa:k<l.length
  ·obtain⟨x,ac⟩:∃ x,l[k]?=some x:=⟨_,aQ aa⟩;obtain⟨b,oo,sn,vz,rfl,bS,av,cA,eq,f0,f1,f2,f3,f4⟩:=rI (HD.out.keep fu HB.out) ac;have uM:Hid (((l.take (k+1)).map (·.zone.apex)).foldl Np.eD []=Np.eD o sn.data.toList):=jq (by
    obtain⟨hl,he⟩:=cQ.1 ac;rw[fQ hl,he,List.map_append,List.foldl_append,HE.out,av]; rfl)
   have Zy:sn.size<=1000:=by
    have h1:=qZ.out x (gQ ac);rw[<-av,aT] at h1;exact h1
   obtain⟨A0,c0,rfl⟩:=cE.form HO.out;obtain⟨N,hN⟩:∃ N,o.length=N:=⟨_,rfl⟩;have HN:=jq hN;have gm:Hid (wr.ownsRow X 9 1 (.slice A0 N c0) N (o.map aA)):=jq (by have:wr.ownsRow X 9 1 (.slice A0 o.length c0) o.length (o.map aA):=HO.out; rwa [hN] at this);have aVZ:N<=20000:=by rw[<-hN]; exact oa.out
   rw[hN] at HO;rw[hN];obtain⟨wo,rfl⟩:∃ wo,wo=wr:=⟨_,rfl⟩;clear ac av eq f4 hN;go_wp2_with fail;go_loopw [6] (λp wi=>∃ q:Nat,q<=N/\p = .int .i64 q/\Hid (Below wo.heap.size wo wi)/\Hid (∀ t (h:t<o.length),t<q->Np.aI o[t] sn.data.toList<0)) (λp _=>N - (intOf p).toNat)
   case atStart=>exact⟨0,jQ _,rfl,jq (vQ _ _),jq (λt h ht=>by omega)⟩
   case round=>
    obtain⟨q,Zn,rfl,cT,HQ⟩:=hrel;have um:=cT.out.size;have De:Hid (wr.ownsRow X 9 1 (.slice A0 N c0) N (o.map aA)):=jq (fU gm.out (λg hg=>cT.out.block g (gm.out.lt g hg).2));by_cases hq:q<N
    ·obtain⟨g,rfl⟩:∃ g,A0=some ⟨g,0,none⟩:=by
      rcases De.out.2 with ⟨h1,h2⟩ | ⟨g,cap,cur,h1,_⟩
      ·omega
      ·simp only[Value.slice.injEq] at h1;exact⟨g,h1.1⟩
     have Pn:q<o.length:=by rw[HN.out]; exact hq
     obtain⟨y,hy⟩:∃ y,o[q]?=some y:=⟨_,aQ Pn⟩;have r0:wr.cell? ⟨g,q,none⟩=some (aA y):=by rw[De.out.cellAt q (by omega),List.getElem?_map,hy]; rfl
     have ZU:(⟨y.toArray⟩:ByteArray).size<=1000:=by
      have:=Ha.out y (gQ hy)
      rw[<-aT]; exact this
     have HY:Hid (o[q]'Pn=y):=jq (cQ.1 hy).2;have bT:=KD ⟨y.toArray⟩ sn ZU Zy;have e1:(⟨y.toArray⟩:ByteArray).data.toList=y:=rfl;rw[e1] at bT;have HC:=jq bT;clear bT e1 hy;by_cases fN:Np.aI y sn.data.toList<0
     ·have hd:decide (Np.aI y sn.data.toList<0)=true:=uQ fN;have ve:Hid (∀ t (h:t<o.length),t<q+1->Np.aI o[t] sn.data.toList<0):=jq (λt h ht=>by
       by_cases e:t=q
       ·subst e; rw[HY.out]; exact fN
       ·exact HQ.out t h (by omega))
      obtain⟨cz,tH⟩:∃ cz,Np.aI y sn.data.toList=cz:=⟨_,rfl⟩;rw[tH] at hd HC;clear fN tH;unfold aA at r0;go_wp2_with (go_at_call 100; refine (HC.out _).mono ?_; rintro e w5 ⟨rfl,aF⟩; have cS:=jq (cT.out.trans (aF.mono um)); clear aF);go_roundw
      case rel=>exact⟨q+1,by omega,by go_num,jq cS.out,ve⟩
      case measure=>simp[intOf] <;> omega
     ·have hd:decide (Np.aI y sn.data.toList<0)=false:=tQ fN;have TW:=jq fN;obtain⟨cz,tH⟩:∃ cz,Np.aI y sn.data.toList=cz:=⟨_,rfl⟩;rw[tH] at hd HC;clear fN tH;unfold aA at r0;by_cases hey:y=sn.data.toList
      ·have cN:(y == sn.toList)=true:=by rw[dQ,hey]; simp
       have Ai:Hid (Np.eD o sn.data.toList=o):=jq (QS o _ q Pn HQ.out (by rw[HY.out]; exact hey));clear hey;go_wp2_with (go_at_call 100; refine (HC.out _).mono ?_; rintro e w5 ⟨rfl,aF⟩; have r0':=(aF.cell (p:=⟨g,q,none⟩) (by have:=(De.out.lt g rfl).2; dsimp only; omega)).trans r0; have cS:=jq (cT.out.trans (aF.mono um)); clear aF);go_roundw
       case rel=>exact⟨k+1,o,by omega,by go_num,by have:=cS.out.size; omega,jq (HB.out.trans (cS.out.mono Bp)),jq (HO.out.keep cS.out),jq (by rw[uM.out,Ai.out])⟩
       case measure=>simp[intOf] <;> omega
      ·have cN:(y == sn.toList)=false:=by rw[dQ]; simpa using hey
       have Ai:Hid (Np.eD o sn.data.toList=o.take q++sn.data.toList::o.drop q):=jq (KA o _ q (by omega) HQ.out (λh=>by rw[HY.out]; exact⟨TW.out,hey⟩));clear hey;obtain⟨N1,nr⟩:∃ N1,o.length+1=N1:=⟨_,rfl⟩;have IR:=HN.out;have ak:IntKind.i64.wrap ((N1:Int) - 1)=(N:Int):=by rw[show (N1:Int) - 1=N by omega]; simp[IntKind.wrap,IntKind.bits,IntKind.signed]; omega
       have XA:N+1=N1:=by omega
       have fB:=jq nr;clear nr IR;go_wp2_with (first | (go_at_call 100; refine (HC.out _).mono ?_; rintro e w5 ⟨rfl,aF⟩; have r0':=(aF.cell (p:=⟨g,q,none⟩) (by have:=(De.out.lt g rfl).2; dsimp only; omega)).trans r0; have cS:=jq (cT.out.trans (aF.mono um)); have ru:Hid (cE X w5 _ o):=jq (HO.out.keep cS.out); have IY:X<=w5.heap.size:=(by have:=cS.out.size; omega); clear aF) | (at_builtin; refine zu _ rfl _ _ rfl X _ o rfl (ru.out.alloc _) w5.heap.size sn.data.toList (by simp[go_sem]) (by simp[go_sem]) (by have:=oa.out; omega) (by simp; omega) ?_; intro v6 w6 qG aU; obtain⟨g6,cap6,rfl,B9⟩:=Ra qG fB.out; have Hi:=jq B9; have ca:=jq ((((cS.out.mono Bp).alloc IY _).trans aU)); clear qG aU B9));have il:X<=w6.heap.size:=by have:=ca.out.size; omega
       obtain⟨wj,J7⟩:∃ wj,wj=w6:=⟨_,rfl⟩;clear J7;go_loopw [7] (λjv wi=>∃ (j:Nat) (z:List UInt8),q<=j/\j<=N/\jv = .int .i64 j/\X<=wi.heap.size/\Hid (Below X wo wi)/\Hid (wi.ownsRow X 9 1 (.slice (some ⟨g6,0,none⟩) N1 cap6) N1 ((o.take j++z::o.drop j).map aA))) (λjv _=>(intOf jv).toNat)
       case atStart=>exact⟨N,sn.data.toList,by omega,bQ _,rfl,il,ca,jq (by rw[kQ (by rw[HN.out]; exact bQ _),List.drop_eq_nil_of_le (by rw[HN.out]; exact bQ _)]; exact Hi.out)⟩
       case round=>
        obtain⟨j,z,Zo,JB,rfl,jA,CU,pg⟩:=hrel;have iH:j<=o.length:=by rw[HN.out]; exact JB
        have Ed:X<=g6/\g6<wr.heap.size:=pg.out.lt g6 rfl;have El:wr.cell? ⟨g6,j,none⟩=some (aA z):=by rw[pg.out.cellAt j (by omega),List.getElem?_map,Rq iH]; rfl
        have YA:wr.frozen? ⟨g6,j,none⟩=false:=pg.out.frozenAt j;have YS:(0:Int)<=(j:Int):=by omega
        have YT:(j:Int)<(N1:Int):=by omega
        have YU:j<N1:=by omega
        by_cases Pk:q<j
        ·obtain⟨m,hm⟩:∃ m,j=m+1:=⟨j - 1,by omega⟩;have yE:m<o.length:=by omega
         obtain⟨u,hu⟩:∃ u,o[m]?=some u:=⟨_,aQ yE⟩;have yM:o[m]=u:=(cQ.1 hu).2;have fN:wr.cell? ⟨g6,m,none⟩=some (aA u):=by rw[pg.out.cellAt m (by omega),List.getElem?_map,aEY (by omega) iH,hu]; rfl
         have hjw:IntKind.i64.wrap ((j:Int) - 1)=(m:Int):=by rw[show (j:Int) - 1=m by omega]; simp[IntKind.wrap,IntKind.bits,IntKind.signed]; omega
         have ju:(0:Int)<=(m:Int):=by omega
         have Ez:(m:Int)<(N1:Int):=by omega
         have jw:m<N1:=by omega
         have OF:decide ((q:Int)<(j:Int))=true:=uQ (by omega);have cI:Hid ((wr.setCell ⟨g6,j,none⟩ (aA u)).ownsRow X 9 1 (.slice (some ⟨g6,0,none⟩) N1 cap6) N1 ((o.take m++u::o.drop m).map aA)):=jq (by
          have h1:=(World.ownsRow.stored pg.out j (aA u)).1;rw[<-List.map_set] at h1;subst hm;rw[<-yM,aEX yE,yM] at h1;exact h1)
         have jG:Hid (Below X wo (wr.setCell ⟨g6,j,none⟩ (aA u))):=jq (CU.out.setCell Ed.1 _);have Zp:q<=m:=by omega
         have Y3:m<=N:=by omega
         have TS:Hid (m<j):=jq (by omega);clear hm hu yM;unfold aA at El fN cI jG;go_wp2_with fail;go_roundw
         case rel=>exact⟨m,u,Zp,Y3,rfl,by simp; omega,jG,cI⟩
         case measure=>have:=TS.out; simp[intOf] <;> omega
        ·have JC:j=q:=by omega
         subst JC;have OF:decide ((j:Int)<(j:Int))=false:=tQ (by omega);have cI:Hid ((wr.setCell ⟨g6,j,none⟩ (.string sn)).ownsRow X 9 1 (.slice (some ⟨g6,0,none⟩) N1 cap6) N1 ((o.take j++sn.data.toList::o.drop j).map aA)):=jq (by
          have h1:=(World.ownsRow.stored pg.out j (aA sn.data.toList)).1;rw[<-List.map_set,Ro iH] at h1;exact h1)
         have jG:Hid (Below X wo (wr.setCell ⟨g6,j,none⟩ (.string sn))):=jq (CU.out.setCell Ed.1 _);have xN:Hid ((o.take j++sn.data.toList::o.drop j).length=N1):=jq (by rw[Rp iH]; exact fB.out);unfold aA at El;go_wp2_with fail;go_roundw
         case rel=>exact⟨k+1,_,by omega,by go_num,by simp; omega,jq (HB.out.trans jG.out),jq (by unfold cE; rw[xN.out]; exact cI.out),jq (by rw[uM.out,Ai.out])⟩
         case measure=>simp[intOf] <;> omega
    ·have B5:q=N:=by omega
     have Ai:Hid (Np.eD o sn.data.toList=o.take q++sn.data.toList::o.drop q):=jq (KA o _ q (by rw[HN.out]; exact Zn) HQ.out (λh=>by rw[HN.out] at h; omega));clear B5;obtain⟨N1,nr⟩:∃ N1,o.length+1=N1:=⟨_,rfl⟩;have IR:=HN.out;have ak:IntKind.i64.wrap ((N1:Int) - 1)=(N:Int):=by rw[show (N1:Int) - 1=N by omega]; simp[IntKind.wrap,IntKind.bits,IntKind.signed]; omega
     have XA:N+1=N1:=by omega
     have fB:=jq nr;clear nr IR;have cS:=cT;have ru:Hid (cE X wr _ o):=jq (HO.out.keep cT.out);have IY:X<=wr.heap.size:=by omega
     go_wp2_with (first | (at_builtin; refine zu _ rfl _ _ rfl X _ o rfl (ru.out.alloc _) wr.heap.size sn.data.toList (by simp[go_sem]) (by simp[go_sem]) (by have:=oa.out; omega) (by simp; omega) ?_; intro v6 w6 qG aU; obtain⟨g6,cap6,rfl,B9⟩:=Ra qG fB.out; have Hi:=jq B9; have ca:=jq ((((cS.out.mono Bp).alloc IY _).trans aU)); clear qG aU B9));have il:X<=w6.heap.size:=by have:=ca.out.size; omega
     obtain⟨wj,J7⟩:∃ wj,wj=w6:=⟨_,rfl⟩;clear J7;go_loopw [7] (λjv wi=>∃ (j:Nat) (z:List UInt8),q<=j/\j<=N/\jv = .int .i64 j/\X<=wi.heap.size/\Hid (Below X wo wi)/\Hid (wi.ownsRow X 9 1 (.slice (some ⟨g6,0,none⟩) N1 cap6) N1 ((o.take j++z::o.drop j).map aA))) (λjv _=>(intOf jv).toNat)
     case atStart=>exact⟨N,sn.data.toList,by omega,bQ _,rfl,il,ca,jq (by rw[kQ (by rw[HN.out]; exact bQ _),List.drop_eq_nil_of_le (by rw[HN.out]; exact bQ _)]; exact Hi.out)⟩
     case round=>
      obtain⟨j,z,Zo,JB,rfl,jA,CU,pg⟩:=hrel;have iH:j<=o.length:=by rw[HN.out]; exact JB
      have Ed:X<=g6/\g6<wr.heap.size:=pg.out.lt g6 rfl;have El:wr.cell? ⟨g6,j,none⟩=some (aA z):=by rw[pg.out.cellAt j (by omega),List.getElem?_map,Rq iH]; rfl
      have YA:wr.frozen? ⟨g6,j,none⟩=false:=pg.out.frozenAt j;have YS:(0:Int)<=(j:Int):=by omega
      have YT:(j:Int)<(N1:Int):=by omega
      have YU:j<N1:=by omega
      by_cases Pk:q<j
      ·exact absurd Pk (by omega)
      ·have JC:j=q:=by omega
       subst JC;have OF:decide ((j:Int)<(j:Int))=false:=tQ (by omega);have cI:Hid ((wr.setCell ⟨g6,j,none⟩ (.string sn)).ownsRow X 9 1 (.slice (some ⟨g6,0,none⟩) N1 cap6) N1 ((o.take j++sn.data.toList::o.drop j).map aA)):=jq (by
        have h1:=(World.ownsRow.stored pg.out j (aA sn.data.toList)).1;rw[<-List.map_set,Ro iH] at h1;exact h1)
       have jG:Hid (Below X wo (wr.setCell ⟨g6,j,none⟩ (.string sn))):=jq (CU.out.setCell Ed.1 _);have xN:Hid ((o.take j++sn.data.toList::o.drop j).length=N1):=jq (by rw[Rp iH]; exact fB.out);unfold aA at El;go_wp2_with fail;go_roundw
       case rel=>exact⟨k+1,_,by omega,by go_num,by simp; omega,jq (HB.out.trans jG.out),jq (by unfold cE; rw[xN.out]; exact cI.out),jq (by rw[uM.out,Ai.out])⟩
       case measure=>simp[intOf] <;> omega
  ·have HT:Hid (l.take k=l):=jq (kQ (by omega));go_wp2_with fail;go_ret;refine⟨_,rfl,?_,HB.out⟩;have h1:=HE.out;rw[HT.out] at h1;rw[h1];exact HO.out
theorem Vt{B:Nat}{M:Nat->Prop}{w:World}(hM:∀ k,M k->B<=k):Below B w (bj w M):=
 ⟨rfl,rfl,rfl,by rw[gU]; exact bQ _,λk hk=>lF (λh=>by have:=hM k h; omega)⟩
theorem SlR.around{α:Type}{R:World->Nat->List Value->α->Prop}{sz B:Nat}{w:World}{v:Value}{xs:List α}{M:Nat->Prop}(h:SlR R sz w B v xs)(hk:dw R)(hm:dN R)(hM:∀ k,M k->B<=k)(hB:B<=w.heap.size):SlR R sz (bj w M) w.heap.size v xs:=
 (h.keep hk (Vt hM)).more hm hB
theorem bU.keep{α:Type}{R:World->Nat->List Value->α->Prop}{sz:Nat}{e:TypeId}{base:Nat}{M:Nat->Prop}{w w':World}{v:Value}{xs:List α}(h:bU R sz e base M w v xs)(hk:dw R)(hs:eH R)(hm:dN R)(hb:Below w.heap.size w w'):bU R sz e base M w' v xs:=by
 refine h.leaves hk hs hm (Leaves'.of_below hb) (λg hg=>?_);obtain⟨rows,h1,h2,h3,h4⟩:=h;exact⟨hb.block g (h2.lt g hg).2,h3 g hg⟩
theorem bU.lt{α:Type}{R:World->Nat->List Value->α->Prop}{sz:Nat}{e:TypeId}{base:Nat}{M:Nat->Prop}{w:World}{v:Value}{xs:List α}(h:bU R sz e base M w v xs):∀ g,v.ownBlock=some g->base<=g/\g<w.heap.size:=by
 obtain⟨rows,h1,h2,h3,h4⟩:=h;exact h2.lt
theorem bU.formN{α:Type}{R:World->Nat->List Value->α->Prop}{sz:Nat}{e:TypeId}{base:Nat}{M:Nat->Prop}{w:World}{v:Value}{xs:List α}{n:Nat}(h:bU R sz e base M w v xs)(hn:xs.length=n):∃ A c,v = .slice A n c:=by
 subst hn; exact h.form
theorem nR:eH jm:=λ_ _ _ _ _ _ hM ⟨s,v,h1,h2,h3,h5⟩=>⟨s,v,h1,h2,h3.sans jc hM,h5⟩
theorem aAQ:∀ (w:World) (B:Nat) (r:List Value) (y:Np.Placed),jm w B r y->∀ u∈r,u.oneCell'=true:=λw B r y ⟨s,v,_,_,h3,h5⟩ u hu=>by
 obtain⟨A,c,rfl,_⟩:=ah h3;rw[h5] at hu;simp only[List.mem_cons,Qh,or_false] at hu;rcases hu with rfl | rfl | rfl <;> rfl
theorem aAJ:∀ (w:World) (B:Nat) (r:List Value) (y:Np.Signed),bC w B r y->∀ u∈r,u.oneCell'=true:=λw B r y ⟨s,v,u',_,_,h3,h4,h5⟩ u hu=>by
 obtain⟨A,c,rfl,_⟩:=ah h3;obtain⟨A',c',rfl,_⟩:=ah h4;rw[h5] at hu;simp only[List.mem_cons,Qh,or_false] at hu;rcases hu with rfl | rfl | rfl | rfl | rfl <;> rfl
theorem bU.slr_sans{α:Type}{R:World->Nat->List Value->α->Prop}{sz:Nat}{e:TypeId}{base:Nat}{M M':Nat->Prop}{w:World}{v:Value}{xs:List α}(hs:eH R)(hm:dN R)(h:bU R sz e base M w v xs)(hM:∀ k,M' k->M k/\v.ownBlock≠some k)(hl:xs.length<=140737488355328):SlR R sz (bj w M') w.heap.size v xs:=by
 obtain⟨rows,h1,h2,h3,h4⟩:=h;have h5:bl R sz e base w.heap.size (bj w M') v xs:=⟨rows,h1,fU h2 (λg hg=>lF (λhm'=>(hM g hm').2 hg)),λi r x hr hx=>⟨(h4 i r x hr hx).1,hs _ _ _ _ _ _ (λk hk=>(hM k hk).1) (h4 i r x hr hx).2⟩⟩;have h6:=h5.slr hm (by rw[gU]; exact bQ _) hl;rwa [gU] at h6
theorem Leaves'.slr{α:Type}{R:World->Nat->List Value->α->Prop}{sz:Nat}(hk:dw R)(hs:eH R)(hm:dN R){M M':Nat->Prop}{w w':World}(h:Leaves' M w w' M'){v:Value}{xs:List α}(hr:SlR R sz (bj w M) w.heap.size v xs):SlR R sz (bj w' M') w'.heap.size v xs:=by
 have hb:Below w.heap.size (bj w M) (bj w' λk=>M k\/M' k):=by
  refine⟨h.os,h.tape,h.output,by rw[gU,gU]; exact h.size,λk hk=>?_⟩;by_cases hm:M k
  ·rw[xo hm,xo (Or.inl hm)];have h1:k<w'.heap.size:=lQ hk h.size;simp[hk,h1]
  ·have hk':=h.keep k hk hm;rw[lF hm,lF (λe=>e.elim hm hk'.1)];exact hk'.2
 exact ((hr.keep hk hb).more hm h.size).sans hs (λ_ e=>.inr e)
def CO{α:Type}(R:World->Nat->List Value->α->Prop)(B n:Nat)(w:World)(e:List Value)(x:α):Prop:=∀ M:Nat->Prop,(∀ k,M k->B<=k/\k<n)->R (bj w M) w.heap.size e x
def fI{α:Type}(R:World->Nat->List Value->α->Prop)(sz B n:Nat)(w:World)(v:Value)(xs:List α):Prop:=∀ M:Nat->Prop,(∀ k,M k->B<=k/\k<n)->SlR R sz (bj w M) w.heap.size v xs
theorem CO.all{α:Type}{R:World->Nat->List Value->α->Prop}{B n:Nat}{w:World}{e:List Value}{x:α}(h:CO R B n w e x)(hs:eH R):R w w.heap.size e x:=hs.all (h (λ_=>False) (λ_ e=>e.elim))
theorem fI.all{α:Type}{R:World->Nat->List Value->α->Prop}{sz B n:Nat}{w:World}{v:Value}{xs:List α}(h:fI R sz B n w v xs)(hs:eH R):SlR R sz w w.heap.size v xs:=(h (λ_=>False) (λ_ e=>e.elim)).all hs
theorem nP:eH dD:=λ_ _ _ _ _ _ hM ⟨s,v,h1,h2,h3,h5⟩=>⟨s,v,h1,h2,h3.sans jc hM,h5⟩
theorem azZ:eH gb:=λ_ _ _ _ _ _ _ h=>h
theorem azJ:eH gJ:=λ_ _ _ _ _ _ _ h=>h
theorem sL{α:Type}(R:World->Nat->List Value->α->Prop)(sz:Nat)(w:World)(B:Nat):SlR R sz w B (.slice none 0 0) []:=⟨none,0,rfl,by simp,by simp,λi x hx=>by simp at hx⟩
theorem WY{sz:Nat}{rows:List (List Value)}(hl:∀ r∈rows,r.length=sz){i j:Nat}{r:List Value}{v:Value}(hi:rows[i]?=some r)(hj:r[j]?=some v):rows.flatten[i * sz+j]?=some v:=by
 induction rows generalizing i with
 | nil=>simp at hi
 | cons y l ih=>
  have hy:=hl y (by simp);rw[List.flatten_cons]
  cases i with
  | zero=>
   simp at hi; subst hi
   have:=(cQ.1 hj).1
   rw[Nat.zero_mul,Nat.zero_add,List.getElem?_append_left (by omega)];exact hj
  | succ i=>
   rw[oQ (by rw[hy,Nat.succ_mul]; omega),hy,show (i+1) * sz+j - sz=i * sz+j by rw[Nat.succ_mul]; omega];exact ih (λr hr=>hl r (mQ _ hr)) (by simpa using hi)
theorem Nb(w:World)(l:List Value)(T:TypeId):cR (w.alloc (.cells l.toArray T)) w.heap.size 0 l:=λj v hj=>by
 have h:=heap_alloc_new w (.cells l.toArray T);unfold World.cell?;rw[h,Nat.zero_add];simpa using hj
theorem KI{α:Type}{R:World->Nat->List Value->α->Prop}{sz:Nat}{w:World}{B b n:Nat}{xs:List α}(rows:List (List Value))(hn:xs.length=n)(hb:b<B)(hs:n<=1000)(hc:cR w b 0 rows.flatten)(hl:∀ r∈rows,r.length=sz)(hr:∀ (i:Nat) (x:α),xs[i]?=some x->∃ r,rows[i]?=some r/\R w B r x):SlR R sz w B (.slice (some ⟨b,0,none⟩) n n) xs:=by
 subst hn;refine⟨_,_,rfl,bQ _,by omega,λi x hx=>?_⟩;obtain⟨r,h1,h2⟩:=hr i x hx;exact⟨b,0,r,rfl,hb,hl r (gQ h1),λj v hj=>by
  have:=hc _ v (WY hl h1 hj)
  rwa [Nat.zero_add] at this |-,h2⟩
theorem pU{α:Type}{R:World->Nat->List Value->α->Prop}{w:World}{B b:Nat}{x:α}(r:List Value)(hb:b<B)(hc:cR w b 0 r)(h:R w B r x):SlR R r.length w B (.slice (some ⟨b,0,none⟩) 1 1) [x]:=
 KI [r] rfl hb (by omega) (by simpa using hc) (by simp) (λi y hy=>by
  match i,hy with
  | 0,hy=>cases hy; exact⟨_,rfl,h⟩
  | i+1,hy=>simp at hy)
theorem E3{α:Type}{R:World->Nat->List Value->α->Prop}{w:World}{B b:Nat}{x y:α}(r s:List Value)(hl:s.length=r.length)(hb:b<B)(hc:cR w b 0 (r++s))(h:R w B r x)(h2:R w B s y):SlR R r.length w B (.slice (some ⟨b,0,none⟩) 2 2) [x,y]:=
 KI [r,s] rfl hb (by omega) (by simpa using hc) (by simp[hl]) (λi z hz=>by
  match i,hz with
  | 0,hz=>cases hz; exact⟨_,rfl,h⟩
  | 1,hz=>cases hz; exact⟨_,rfl,h2⟩
  | i+2,hz=>simp at hz)
theorem Kp{α:Type}{R:World->Nat->List Value->α->Prop}{w:World}{B b:Nat}{x y z:α}(r s t:List Value)(hl:s.length=r.length)(dm:t.length=r.length)(hb:b<B)(hc:cR w b 0 (r++s++t))(h:R w B r x)(h2:R w B s y)(h3:R w B t z):SlR R r.length w B (.slice (some ⟨b,0,none⟩) 3 3) [x,y,z]:=
 KI [r,s,t] rfl hb (by omega) (by simpa using hc) (by simp[hl,dm]) (λi u hu=>by
  match i,hu with
  | 0,hu=>cases hu; exact⟨_,rfl,h⟩
  | 1,hu=>cases hu; exact⟨_,rfl,h2⟩
  | 2,hu=>cases hu; exact⟨_,rfl,h3⟩
  | i+3,hu=>simp at hu)
theorem cR.off{w:World}{b o:Nat}{e:List Value}(h:cR w b o e){M:Nat->Prop}(hM:¬ M b):cR (bj w M) b o e:=λj v hj=>(iQ (a:=⟨b,o+j,none⟩) (lF hM)).trans (h j v hj)
theorem MZ{α:Type}{R:World->Nat->List Value->α->Prop}{sz:Nat}{p:Nat->Prop}{w w':World}{v:Value}{xs:List α}(h:∀ M:Nat->Prop,(∀ k,M k->p k)->SlR R sz (bj w M) w.heap.size v xs)(hk:dw R)(hm:dN R)(hb:Below w.heap.size w w'){M:Nat->Prop}(hM:∀ k,M k->p k\/w.heap.size<=k):SlR R sz (bj w' M) w'.heap.size v xs:=by
 have h1:=h (λk=>M k/\k<w.heap.size) (λk e=>(hM k e.1).resolve_right (by omega));refine (h1.keep hk ?_).more hm hb.size;refine⟨hb.os,hb.tape,hb.output,by rw[gU,gU]; exact hb.size,λk hk=>?_⟩;by_cases hm:M k
 ·have h1:k<w'.heap.size:=lQ hk hb.size;rw[xo hm,xo (M:=λk=>M k/\k<w.heap.size) ⟨hm,hk⟩];simp[hk,h1]
 ·rw[lF hm,lF (M:=λk=>M k/\k<w.heap.size) (λe=>hm e.1)];exact hb.block k hk
theorem M0{α:Type}{R:World->Nat->List Value->α->Prop}{sz cb:Nat}{p:Nat->Prop}{w w':World}{v:Value}{xs:List α}(h:∀ M:Nat->Prop,(∀ k,M k->p k)->SlR R sz (bj w M) w.heap.size v xs)(hk:dw R)(hs:eH R)(hm:dN R)(hc:p cb)(ht:Turned cb w w'):SlR R sz w' w'.heap.size v xs:=by
 have h1:=h (λk=>k=cb) (λk e=>e ▸ hc);have h2:=Leaves'.slr (M:=λk=>k=cb) (M':=λk=>k=cb) hk hs hm (w':=w') ⟨ht.os,ht.tape,ht.output,Nat.le_of_eq ht.size.symm,λi _ hi=>⟨hi,ht.block i hi⟩⟩ h1;exact (h2.sans hs (M':=λ_=>False) (λ_ e=>e.elim)).all hs
theorem fI.later{α:Type}{R:World->Nat->List Value->α->Prop}{sz n:Nat}{w w':World}{v:Value}{xs:List α}(h:fI R sz 0 n w v xs)(hk:dw R)(hm:dN R)(hb:Below w.heap.size w w'){M:Nat->Prop}(hM:∀ k,M k->k<n\/w.heap.size<=k):SlR R sz (bj w' M) w'.heap.size v xs:=
 MZ h hk hm hb (λk e=>(hM k e).imp (λe=>⟨jQ _,e⟩) id)
theorem fI.keep{α:Type}{R:World->Nat->List Value->α->Prop}{sz n:Nat}{w w':World}{v:Value}{xs:List α}(h:fI R sz 0 n w v xs)(hk:dw R)(hm:dN R)(hb:Below w.heap.size w w'):fI R sz 0 n w' v xs:=λ_ hM=>h.later hk hm hb (λk e=>.inl (hM k e).2)
theorem fI.past{α:Type}{R:World->Nat->List Value->α->Prop}{sz n cb:Nat}{w w':World}{v:Value}{xs:List α}(h:fI R sz 0 n w v xs)(hk:dw R)(hs:eH R)(hm:dN R)(hc:cb<n)(ht:Turned cb w w'):SlR R sz w' w'.heap.size v xs:=
 M0 h hk hs hm ⟨jQ _,hc⟩ ht
theorem fI.nil{α:Type}(R:World->Nat->List Value->α->Prop)(sz n:Nat)(w:World):fI R sz 0 n w (.slice none 0 0) []:=λ_ _=>sL _ _ _ _
theorem fI.form{α:Type}{R:World->Nat->List Value->α->Prop}{sz n:Nat}{w:World}{v:Value}{xs:List α}(h:fI R sz 0 n w v xs):∃ A c,v = .slice A xs.length c:=by
 obtain⟨A,c,rfl,_⟩:=ah (h (λ_=>False) (λ_ e=>e.elim));exact⟨_,_,rfl⟩
end
end Go.Proofs.YtbfbobfbgabjiaaGreatDoor
