/- Parts of the proof. No condition. -/
import Derived.Laws.OwnMore
import Derived.Test.YtfnopgdcaanaiaaGreatDoorH17
import Derived.Test.YtfnopgdcaanaiaaGreatDoorH19
import Derived.Test.YtfnopgdcaanaiaaGreatDoorH20
set_option linter.all false
set_option maxRecDepth 100000
set_option maxHeartbeats 8000000
namespace Go.Proofs.YtfnopgdcaanaiaaGreatDoor
open Go.Proofs.Tryz
section
open Go.RowKit Go.MapKept
def sM(W:World)(B:Nat)(e:List Value)(p:Np.Placed):Prop:=∃ (s:ByteArray) (v:Value),s.data.toList=p.zone.apex/\s.size<=140737488355328/\SlR bh 5 W B v p.zone.sets/\e = [.int .i64 p.host,.string s,v]
theorem Ct:cY sM:=λ_ _ _ _ _ ⟨s,v,h1,h2,h3,h5⟩ hb=>⟨s,v,h1,h2,h3.keep aX hb,h5⟩
theorem Gz:dw sM:=λ_ _ _ _ _ ⟨s,v,h1,h2,h3,h5⟩ hb=>⟨s,v,h1,h2,h3.more cj hb,h5⟩
theorem Xd{w:World}{B n c:Nat}{A:Option Addr}{xs:List Np.Placed}(h:SlR sM 3 w B (.slice A n c) xs){k:Nat}{x:Np.Placed}(hx:xs[k]?=some x):∃ (b o:Nat) (s:ByteArray) (v:Value),A=some ⟨b,o,none⟩/\b<B/\s.data.toList=x.zone.apex/\s.size<=140737488355328/\SlR bh 5 w B v x.zone.sets/\w.cell? ⟨b,o+k * 3,none⟩=some (.int .i64 x.host)/\w.cell? ⟨b,o+k * 3+1,none⟩=some (.string s)/\w.cell? ⟨b,o+k * 3+2,none⟩=some v:=by
 obtain⟨A',c',hA',_,_,bK⟩:=h
 cases hA'
 obtain⟨b,o,e,hA,bG,hlen,hce,s,v,h1,h2,h3,he⟩:=bK k _ hx;subst he;exact⟨b,o,s,v,hA,bG,h1,h2,h3,hce 0 _ rfl,hce 1 _ rfl,hce 2 _ rfl⟩
def jm(r n:Nat)(w:World):Prop:=∃ es c kvs,w.heap[r]?=some (.map es c)/\es.toList.map (λe=>(e.key,e.val))=(kvs:List (List UInt8×Value)).map (λp=>(aB p.1,p.2))/\es.size<=n
theorem jm.lt{r n:Nat}{w:World}(h:jm r n w):r<w.heap.size:=by
 obtain⟨es,c,kvs,h,_⟩:=h;exact (eQ.1 h).1
theorem jm.keep{r k:Nat}{w w':World}{n:Nat}(h:jm r k w)(hb:Below n w w')(hn:r<n):jm r k w':=by
 obtain⟨es,c,kvs,h,h2⟩:=h;exact⟨es,c,kvs,(hb.block r hn).trans h,h2⟩
theorem jm.turned{r k r':Nat}{w w':World}(h:jm r k w)(ht:Turned r' w w')(hne:r≠r'):jm r k w':=by
 obtain⟨es,c,kvs,h,h2⟩:=h;exact⟨es,c,kvs,(ht.block r hne).trans h,h2⟩
theorem jm.made(w:World):jm w.heap.size 0 (w.alloc (.map #[] 0)):=⟨#[],0,[],heap_alloc_new _ _,rfl,bQ _⟩
theorem Sq(x:List UInt8):∀ (es:List MapEntry) (kvs:List (List UInt8×Value)) (i:Nat),es.map (λe=>(e.key,e.val))=kvs.map (λp=>(aB p.1,p.2))->
 (∃ j e,es[j]?=some e/\e.key=aB x/\Instr.findNow .string (aB x) es i=some (some (i+j,e.val)))\/Instr.findNow .string (aB x) es i=some none:=by
 intro es
 induction es with
 | nil=>
  intro kvs i h;exact .inr rfl
 | cons e es ih=>
  intro kvs i h
  cases kvs with
  | nil=>simp at h
  | cons p kvs=>
   obtain⟨y,u⟩:=p;simp only[List.map_cons,List.cons.injEq,Prod.mk.injEq] at h;obtain⟨⟨h1,h2⟩,h3⟩:=h;have hs:Instr.sameNow .string (aB x) e.key=some (x == y):=by rw[h1];simp only[Instr.sameNow];rw[NS]
   by_cases bR:x=y
   ·subst bR;have hb:(x == x)=true:=by simp
    rw[hb] at hs;exact .inl ⟨0,e,rfl,h1,by simp only[Instr.findNow,hs];rfl⟩
   ·have hb:(x == y)=false:=by simpa using bR
    rw[hb] at hs;rcases ih kvs (i+1) h3 with ⟨j,e',j1,j2,j3⟩ | h4
    ·exact .inl ⟨j+1,e',by simpa using j1,j2,by simp only[Instr.findNow,hs];rw[j3,show i+1+j=i+(j+1) by omega]⟩
    ·exact .inr (by simp only[Instr.findNow,hs];exact h4)
theorem V0(a:ByteArray)(P:Program)(w:World):(Instr.keyThatStays (.string a) (.string a)).run P w = .ok (.string a) w:=by
 have h1:(a == a)=true:=by
  show (a.data == a.data)=true;simp
 have:Instr.sameBits 10000 (.string a) (.string a)=true:=by simp[Instr.sameBits,h1]
 simp[Instr.keyThatStays,this]
section
variable {P:Program} {ops:Array Oper} {rest:List Oper} {o:Oper} {a:Act} {Q:Exit->Act->World->Prop}
theorem Z3(w:World)(hg:o.guard=none)(m x v:Operand)(t:TypeId)(iV:o.op=Op.mapUpdate t m x v)(kt et:TypeId)(ht:P.underlying t=some (.map kt et))(hk:P.underlying kt=some .string)
 (r n:Nat) (hm:a.eval m = .map (some r)) (hr:jm r n w) (key:List UInt8) (hx:a.eval x=aB key) (val:Value) (hv:a.eval v=val)
 (hK:∀ w',jm r (n+1) w'->Turned r w w'->wpList P ops Q rest (a.put o.dst undef) w'):wpList P ops Q (o::rest) a w:=by
 obtain⟨es,c,kvs,hr,he,hn⟩:=hr;refine wpList_plain hg λK' hK'=>?_;have hc:(Instr.checkKey false 10000 kt (aB key)).run P w = .ok () w:=MapKept.run_checkKey (k:=aB key) hk (by simp[MapKept.IsKey]) false 9999;have hl:r<w.heap.size:=(eQ.1 hr).1;rcases Sq key es.toList kvs 0 he with ⟨j,e,j1,j2,hf⟩ | hf
 ·have rg:(Instr.keyThatStays (((es[j]?).map (·.key)).getD (aB key)) (aB key)).run P w = .ok (aB key) w:=by
   rw[Array.getElem?_toList] at j1;rw[j1];simp only[Option.map_some,Option.getD_some];rw[j2];exact V0 _ P w
  rw[Nat.zero_add] at hf;have cI:(Instr.mapUpdate t (.map (some r)) (aB key) val).run P w = .ok () { w with heap:=w.heap.setIfInBounds r (.map (es.modify j λe=>{ e with key:=aB key,val:=val }) c) }:=by
   simp[Instr.mapUpdate,run_underlying ht,MapKept.run_getObj_map hr,hc,MapKept.run_findKey hk hf,rg,MapKept.run_setObj_map _ hr,Result.andThen]
  unfold Oper.wp;simp[execOp,iV,hm,hx,hv,cI,Result.andThen];refine hK' _ _ (hK _ ⟨es.modify j λe=>{ e with key:=aB key,val:=val },c,kvs.modify j λ_=>(key,val),by simp[hl],?_,by simp;omega⟩ ⟨rfl,rfl,rfl,by simp,λi hi=>by simp[Ne.symm hi]⟩);apply List.ext_getElem?;intro i;have hi:=Qd (λl=>l[i]?) he;simp only[List.getElem?_map] at hi |-;rw[Array.toList_modify,List.getElem?_modify,List.getElem?_modify];by_cases dp:j=i
  ·subst dp;simp only[if_true]
   cases h1:es.toList[j]? <;> cases h2:kvs[j]? <;> simp[h1,h2] at hi |-
  ·simp only[Qc dp];simpa using hi
 ·have cI:(Instr.mapUpdate t (.map (some r)) (aB key) val).run P w = .ok () { w with heap:=w.heap.setIfInBounds r (.map (es.push { key:=aB key,val:=val,born:=c }) (c+1)) }:=by
   simp[Instr.mapUpdate,run_underlying ht,MapKept.run_getObj_map hr,hc,MapKept.run_findKey hk hf,MapKept.run_setObj_map _ hr,Result.andThen]
  unfold Oper.wp;simp[execOp,iV,hm,hx,hv,cI,Result.andThen];exact hK' _ _ (hK _ ⟨es.push { key:=aB key,val:=val,born:=c },c+1,kvs ++ [(key,val)],by simp[hl],by simp[he],by simp;omega⟩ ⟨rfl,rfl,rfl,by simp,λi hi=>by simp[Ne.symm hi]⟩)
end
theorem Mp{α:Type}[BEq α][LawfulBEq α][DecidableEq α](l:List α)(x:α):((l.map λy=>(y,Value.bool true)).lookup x).getD (.bool false) = .bool (decide (x∈l)):=by
 induction l with
 | nil=>simp
 | cons y l ih=>
  rw[List.map_cons,List.lookup_cons];by_cases h:x=y
  ·subst h;simp
  ·have hb:(x == y)=false:=by simpa using h
   rw[hb];simp only[ih,List.mem_cons,h,false_or]
theorem Mo{α:Type}[BEq α][LawfulBEq α](l:List α)(x:α)(h:x∉l):(l.map λy=>(y,Value.bool true)).lookup x=none:=by
 induction l with
 | nil=>rfl
 | cons y l ih=>
  have hb:(x == y)=false:=by
   rw[beq_eq_false_iff_ne];intro e;exact h (by simp[e])
  rw[List.map_cons,List.lookup_cons,hb];exact ih (λhm=>h (mQ _ hm))
def Np.gY(p:Np.Placed):Int×List UInt8:=(p.host,p.zone.apex)
def Np.AF(n:Nat)(p:Np.Placed):Prop:=(0<=p.host/\p.host<n)/\Np.VZone p.zone
def Np.nh(n:Nat)(l:List Np.Placed):Prop:=(∀ p∈l,Np.AF n p)/\l.Pairwise λp q=>¬ (p.host=q.host/\p.zone.apex=q.zone.apex)
theorem ZD{n k:Nat}{l:List Np.Placed}{x:Np.Placed}(hx:l[k]?=some x)(h:Np.nh n l):Np.AF n x/\Np.gY x∉(l.take k).map Np.gY:=by
 refine⟨h.1 x (gQ hx),λhm=>?_⟩;obtain⟨y,hy,he⟩:=List.mem_map.1 hm;have h1:(l.take k ++ [x]).Pairwise λp q=>¬ (p.host=q.host/\p.zone.apex=q.zone.apex):=by
  obtain⟨hl,he⟩:=cQ.1 hx
  have:l.take k ++ [x]=l.take (k+1):=by rw[fQ hl,he]
  rw[this];exact h.2.sublist (List.take_sublist _ _)
 have h2:=(List.pairwise_append.1 h1).2.2 y hy x (by simp);unfold Np.gY at he;simp only[Prod.mk.injEq] at he;exact h2 he
theorem ZE{n k:Nat}{l:List Np.Placed}{x:Np.Placed}(hx:l[k]?=some x)(h:Np.nh n (l.take k))(h1:Np.AF n x)(h2:Np.gY x∉(l.take k).map Np.gY):Np.nh n (l.take (k+1)):=by
 obtain⟨hl,he⟩:=cQ.1 hx;have ht:l.take (k+1)=l.take k ++ [x]:=by rw[fQ hl,he]
 rw[ht];refine⟨λp hp=>?_,List.pairwise_append.2 ⟨h.2,by simp,λy hy z hz LS=>?_⟩⟩
 ·rcases List.mem_append.1 hp with hp | hp
  ·exact h.1 p hp
  ·rw[List.mem_singleton] at hp;subst hp;exact h1
 ·rw[List.mem_singleton] at hz;subst hz;exact h2 (List.mem_map.2 ⟨y,hy,by unfold Np.gY;simp[LS.1,LS.2]⟩)
theorem Zy(hv:Value)(n:Nat)(hn:∃ A c,hv = .slice A n c)(zv:Value)(l:List Np.Placed)(sv:Value)(ty life:Int)(dv cN:Value)(s:ByteArray)(aM:sv = .string s)(hl:l.length<=500)(hz:∀ p∈l,p.zone.sets.length<=20000)(w:World)(hR:iH w w.heap.size)(hd:SlR sM 3 w w.heap.size zv l) :
 Calls prog 181 #[.agg #[hv,zv,sv,.int .i64 ty,.int .i64 life,dv,cN]] w λe w'=>e = .returned (.bool (Np.yes (Np.nh n l)))/\Below w.heap.size w w':=by
 obtain⟨r,hr⟩:∃ r,Np.yes (Np.nh n l)=r:=⟨_,rfl⟩;rw[hr];have HR:=jq hr;have HD:=jq hd;have gv:=jq hR;have HZ:=jq hz;obtain⟨Ah,ch,rfl⟩:=hn;obtain⟨A,c,rfl,bw,bT⟩:=al hd;subst aM;clear hr hd hR hz;have alZ:∀ (w:World),(Instr.makeMap 299 none).run prog w = .ok (.map (some w.heap.size)) (w.alloc (.map #[] 0)):=λw=>by
  simp[Instr.makeMap,Result.andThen]
 have alJ:∀ (w:World),(Instr.makeMap 111 none).run prog w = .ok (.map (some w.heap.size)) (w.alloc (.map #[] 0)):=λw=>by
  simp[Instr.makeMap,Result.andThen]
 have fM:decide (4000<(l.length:Int))=false:=tQ (by omega);go_enter func181,ntmps181;go_wp2_with fail;obtain⟨w1,ah⟩:∃ w1,((w.alloc (.cells #[.slice Ah n ch,.slice A l.length c,.string s,.int .i64 ty,.int .i64 life,dv,cN] 68)).alloc (.map #[] 0)).alloc (.map #[] 0)=w1:=⟨_,rfl⟩;obtain⟨X,hX⟩:∃ X,w.heap.size=X:=⟨_,rfl⟩;obtain⟨X1,nu⟩:∃ X1,X+1=X1:=⟨_,rfl⟩;obtain⟨X2,Bp⟩:∃ X2,X1+1=X2:=⟨_,rfl⟩;have so:Hid (iF X1 [] w1):=jq (by
  rw[<-ah,<-nu,<-hX];have h0:=iF.made (w.alloc (.cells #[.slice Ah n ch,.slice A l.length c,.string s,.int .i64 ty,.int .i64 life,dv,cN] 68));rw[show w.heap.size+1=(w.alloc (.cells #[.slice Ah n ch,.slice A l.length c,.string s,.int .i64 ty,.int .i64 life,dv,cN] 68)).heap.size by simp];exact h0.keep ((vQ _ _).alloc (bQ _) _) (by simp))
 have PL:Hid (jm X2 0 w1):=jq (by
  rw[<-ah,<-Bp,<-nu,<-hX];have h0:=jm.made ((w.alloc (.cells #[.slice Ah n ch,.slice A l.length c,.string s,.int .i64 ty,.int .i64 life,dv,cN] 68)).alloc (.map #[] 0));simpa using h0)
 have aq:Hid (Below X w w1):=jq (by rw[<-ah,<-hX];exact (((vQ _ _).alloc (bQ _) _).alloc (by simp) _).alloc (by simp;omega) _);have Pb:Hid (w1.cell? ⟨X,0,none⟩=some (.slice Ah n ch)):=jq (by rw[<-ah,<-hX];simp[go_sem]);have bj:X2<w1.heap.size:=by rw[<-ah,<-Bp,<-nu,<-hX];simp
 rw[ah,hX,nu,Bp];have hlX:X<X1:=by omega
 have ajQ:X1<X2:=by omega
 rw[hX] at HD gv;have jS:=jq hX;clear ah nu Bp;go_loopw [17] (λi wr=>∃ k:Nat,k<=l.length/\i = .int .i64 k/\Hid (Below X w wr)/\X2<wr.heap.size/\Hid (wr.cell? ⟨X,0,none⟩=some (.slice Ah n ch))/\Hid (iF X1 (((l.take k).map Np.gY).map λy=>(y,Value.bool true)) wr)/\Hid (jm X2 k wr)/\Hid (Np.nh n (l.take k))) (λi _=>l.length - (intOf i).toNat)
 case atStart=>exact⟨0,jQ _,rfl,aq,bj,Pb,so,PL,jq ⟨λp hp=>by simp at hp,by simp⟩⟩
 case round=>
  obtain⟨k,hk,rfl,HB,cZ,HC,HM,HN,HV⟩:=hrel;have Fc:=HC.out;by_cases aa:k<l.length
  ·obtain⟨x,ab⟩:∃ x,l[k]?=some x:=⟨_,aQ aa⟩;obtain⟨b,o,sn,vz,rfl,bJ,ay,cw,fm,f0,f1,f2⟩:=Xd (HD.out.keep Ct HB.out) ab;have iB:=jq (ZD (n:=n) (k:=k) ab);have cP:=jq (λh1 h2=>ZE ab HV.out h1 h2);have HF:Hid (¬ Np.AF n x->r=false):=jq (λh=>by rw[<-HR.out];exact Np.aF λq=>h (iB.out q).1);have rY:Hid (Np.gY x∈(l.take k).map Np.gY->r=false):=jq (λh=>by rw[<-HR.out];exact Np.aF λq=>(iB.out q).2 h);have HT:Hid ((l.take (k+1)).map Np.gY=(l.take k).map Np.gY ++ [Np.gY x]):=jq (by
    obtain⟨hl,he⟩:=cQ.1 ab;rw[fQ hl,he,List.map_append];rfl)
   have xo:Hid (x.zone.sets.length<=20000):=jq (HZ.out x (gQ ab));have lB:Hid (Np.gY x=(x.host,sn.data.toList)):=jq (by unfold Np.gY;rw[ay]);obtain⟨Az,cz,rfl,_,_⟩:=al fm;obtain⟨nz,iU⟩:∃ nz,x.zone.sets.length=nz:=⟨_,rfl⟩;have aL:=jq ay;rw[iU] at f2;have kV:Hid (SlR bh 5 wr wr.heap.size (.slice Az nz cz) x.zone.sets):=jq (by rw[<-iU];exact fm.more cj (by have:=HB.out.size;omega));obtain⟨w2,ai⟩:∃ w2,wr.alloc (.cells #[.int .i64 x.host,.string sn,.slice Az nz cz] 72)=w2:=⟨_,rfl⟩;obtain⟨w3,ek⟩:∃ w3,w2.alloc (.cells #[.int .i64 x.host,.string sn] 301)=w3:=⟨_,rfl⟩;have aJ:w2.heap.size=wr.heap.size+1:=by rw[<-ai];simp
   have el:w3.heap.size=w2.heap.size+1:=by rw[<-ek];simp
   have ac:Below wr.heap.size wr w2:=by rw[<-ai];exact (vQ _ _).alloc (bQ _) _
   have ak:Below wr.heap.size wr w3:=by rw[<-ek];exact ac.alloc (by omega) _
   have p0:w2.cell? ⟨wr.heap.size,0,none⟩=some (.int .i64 x.host):=by rw[<-ai];simp[go_sem]
   have p1:w2.cell? ⟨wr.heap.size,1,none⟩=some (.string sn):=by rw[<-ai];simp[go_sem]
   have q0:w3.cell? ⟨wr.heap.size,0,none⟩=some (.int .i64 x.host):=by rw[<-ek,<-p0];simp[go_sem,aJ]
   have q1:w3.cell? ⟨wr.heap.size,1,none⟩=some (.string sn):=by rw[<-ek,<-p1];simp[go_sem,aJ]
   have q2:w3.cell? ⟨wr.heap.size,2,none⟩=some (.slice Az nz cz):=by rw[<-ek,<-ai];simp[go_sem]
   have r0:w3.cell? ⟨wr.heap.size+1,0,none⟩=some (.int .i64 x.host):=by rw[<-ek,<-aJ];simp[go_sem]
   have r1:w3.cell? ⟨wr.heap.size+1,1,none⟩=some (.string sn):=by rw[<-ek,<-aJ];simp[go_sem]
   have Kq:w3.cell? ⟨X,0,none⟩=some (.slice Ah n ch):=(ak.cell (by dsimp only;omega)).trans Fc;have ar:=jq (HB.out.trans (ak.mono (by omega)));have n7:Hid (iF X1 (((l.take k).map Np.gY).map λy=>(y,Value.bool true)) w3):=jq (HM.out.keep ak (by omega));have Ag:Hid (jm X2 k w3):=jq (HN.out.keep ak cZ);have kq:Hid (SlR bh 5 w3 w3.heap.size (.slice Az nz cz) x.zone.sets):=jq ((kV.out.keep aX ak).more cj ak.size);have pj:Hid (X2<w3.heap.size):=jq (by omega);have eI:(Instr.lookup 299 (.map (some X1)) (.agg #[.int .i64 x.host,.string sn]) false).run prog w3 = .ok (.bool (decide ((x.host,sn.data.toList)∈(l.take k).map Np.gY))) w3:=by
    have:=YB w3 299 4 underlying299 X1 _ n7.out (x.host,sn.data.toList) (.bool false) (by kernel_rfl)
    rw[Mp] at this;exact this
   rw[<-lB.out] at eI;clear ab ay fm ac ak iU HM HN kV;by_cases g1:x.host<0
   ·have d1:decide (x.host<0)=true:=uQ g1;have HX:Hid (r=false):=jq (HF.out λh=>by have:=h.1;omega);clear g1;go_wp2_with fail;go_ret;exact⟨ae HX.out.symm,by rw[jS.out];exact ar.out⟩
   ·have d1:decide (x.host<0)=false:=tQ g1;by_cases g2:(n:Int)<=x.host
    ·have d2:decide ((n:Int)<=x.host)=true:=uQ g2;have HX:Hid (r=false):=jq (HF.out λh=>by have:=h.1;omega);clear g1 g2;go_wp2_with fail;go_ret;exact⟨ae HX.out.symm,by rw[jS.out];exact ar.out⟩
    ·have d2:decide ((n:Int)<=x.host)=false:=tQ g2;have HG:Hid (0<=x.host/\x.host<n):=jq (by omega);clear g1 g2;by_cases g3:Np.gY x∈(l.take k).map Np.gY
     ·rw[uQ g3] at eI;have HX:Hid (r=false):=jq (rY.out g3);clear g3;go_wp2_with fail;go_ret;exact⟨ae HX.out.symm,by rw[jS.out];exact ar.out⟩
     ·rw[tQ g3] at eI;have jk:=jq g3;clear g3;go_wp2_with fail;refine (OC sn cw _ x.zone.sets xo.out w3 ((gv.out.keep ar.out).more (by have:=ar.out.size;omega)) kq.out).mono ?_;rintro e w4 ⟨rfl,av⟩;have em:w3.heap.size<=w4.heap.size:=av.size;have s0:w4.cell? ⟨wr.heap.size,0,none⟩=some (.int .i64 x.host):=(av.cell (by dsimp only;omega)).trans q0;have s1:w4.cell? ⟨wr.heap.size,1,none⟩=some (.string sn):=(av.cell (by dsimp only;omega)).trans q1;have s2:w4.cell? ⟨wr.heap.size,2,none⟩=some (.slice Az nz cz):=(av.cell (by dsimp only;omega)).trans q2;have t0:w4.cell? ⟨wr.heap.size+1,0,none⟩=some (.int .i64 x.host):=(av.cell (by dsimp only;omega)).trans r0;have t1:w4.cell? ⟨wr.heap.size+1,1,none⟩=some (.string sn):=(av.cell (by dsimp only;omega)).trans r1;have ba:=jq (ar.out.trans (av.mono (by omega)));have Dz:Hid (iF X1 (((l.take k).map Np.gY).map λy=>(y,Value.bool true)) w4):=jq (n7.out.keep av (by omega));have DG:Hid (jm X2 k w4):=jq (Ag.out.keep av pj.out);have Bw:w4.cell? ⟨X,0,none⟩=some (.slice Ah n ch):=(av.cell (by dsimp only;omega)).trans Kq;have dh:=jq Bw;clear av p0 p1 q0 q1 q2 r0 r1 ai ek f0 f1 f2 eI Kq n7 Ag;obtain⟨rz,dJ⟩:∃ rz,Np.yes (Np.VZone ⟨sn.data.toList,x.zone.sets⟩)=rz:=⟨_,rfl⟩;rw[dJ];have ie:=jq dJ;clear dJ
      cases rz with
      | false=>
       have HX:Hid (r=false):=jq (HF.out λh=>by
        have h1:=h.2;have h2:x.zone=⟨sn.data.toList,x.zone.sets⟩:=by rw[aL.out]
        rw[h2] at h1;have h3:=Np.bB h1;rw[ie.out] at h3
        cases h3)
       go_wp2_with fail;go_ret;exact⟨ae HX.out.symm,by rw[jS.out];exact ba.out⟩
      | true=>
       have sG:Hid (Np.nh n (l.take (k+1))):=jq (cP.out ⟨HG.out,by
        have h2:x.zone=⟨sn.data.toList,x.zone.sets⟩:=by rw[aL.out]
        rw[h2];exact Np.ew.1 ie.out⟩ jk.out)
       have PU:Hid ((((l.take k).map Np.gY).map λy=>(y,Value.bool true)).lookup (x.host,sn.data.toList)=none):=jq (by rw[<-lB.out];exact Mo _ _ jk.out);go_wp2_with (at_mapUpdate;first
        | (refine Z4 _ rfl _ _ _ 299 rfl 4 underlying299 X1 _ rfl Dz.out (x.host,sn.data.toList) rfl (.bool true) rfl PU.out ?_;intro w5 lj kH;have s1':w5.cell? ⟨wr.heap.size,1,none⟩=some (.string sn):=(kH.cell (by dsimp only;omega)).trans s1;have H5:=jq (And.intro lj kH);have PM:=jq (DG.out.turned kH (by omega));clear lj kH s0 s1 s2 t0 t1 Bw)
        | (refine Z3 _ rfl _ _ _ 111 rfl 9 4 underlying111 underlying9 X2 k rfl PM.out sn.data.toList rfl (.bool true) rfl ?_;intro w6 K4 LA;have H6:=jq (And.intro K4 LA);clear K4 LA))
       go_roundw
       case rel=>
        refine⟨k+1,by omega,by go_num,jq (((ba.out.trans (H5.out.2.below (by omega))).trans (H6.out.2.below (by omega)))),by rw[H6.out.2.size,H5.out.2.size];have:=pj.out;omega,jq ((H6.out.2.cell (by dsimp only;omega)).trans ((H5.out.2.cell (by dsimp only;omega)).trans dh.out)),jq ?_,jq H6.out.1,sG⟩;have h1:=H5.out.1.keep' (w':=w6) (H6.out.2.block _ (by omega));rw[HT.out,List.map_append,lB.out];exact h1
       case measure=>simp[intOf] <;> omega
  ·have QA:Hid (Np.nh n l):=jq (by have:=HV.out;rwa [kQ (by omega)] at this);obtain⟨es,ce,kvs,hes,_,an⟩:=HN.out;have TM:decide ((es.size:Int)<=500)=true:=uQ (by omega);have rj:(Builtin.len_ #[111] 3 #[.map (some X2)]).run prog wr = .ok (.int .i64 (es.size:Int)) wr:=by
    simp[Builtin.len_,run_underlying underlying111,MapKept.run_getObj_map hes,Result.andThen,goInt]
   obtain⟨m5,lj⟩:∃ m5,es.size=m5:=⟨_,rfl⟩;rw[lj] at rj TM;clear hes lj;go_wp2_with fail;go_ret;exact⟨ae (by rw[<-HR.out];exact (Np.bB QA.out).symm),by rw[jS.out];exact HB.out⟩
def fU(W:World)(B:Nat)(e:List Value)(c:Np.Copy):Prop:=∃ (s:ByteArray) (v:Value),s.data.toList=c.zone.apex/\s.size<=140737488355328/\SlR bh 5 W B v c.zone.sets/\e = [.int .i64 c.host,.int .i64 c.frm,.int .i64 c.til,.string s,v]
theorem g8:cY fU:=λ_ _ _ _ _ ⟨s,v,h1,h2,h3,h5⟩ hb=>⟨s,v,h1,h2,h3.keep aX hb,h5⟩
theorem ma:dw fU:=λ_ _ _ _ _ ⟨s,v,h1,h2,h3,h5⟩ hb=>⟨s,v,h1,h2,h3.more cj hb,h5⟩
theorem pq{w:World}{B n c:Nat}{A:Option Addr}{xs:List Np.Copy}(h:SlR fU 5 w B (.slice A n c) xs){k:Nat}{x:Np.Copy}(hx:xs[k]?=some x):∃ (b o:Nat) (s:ByteArray) (v:Value),A=some ⟨b,o,none⟩/\b<B/\s.data.toList=x.zone.apex/\s.size<=140737488355328/\SlR bh 5 w B v x.zone.sets/\w.cell? ⟨b,o+k * 5,none⟩=some (.int .i64 x.host)/\w.cell? ⟨b,o+k * 5+1,none⟩=some (.int .i64 x.frm)/\w.cell? ⟨b,o+k * 5+2,none⟩=some (.int .i64 x.til)/\w.cell? ⟨b,o+k * 5+3,none⟩=some (.string s)/\w.cell? ⟨b,o+k * 5+4,none⟩=some v:=by
 obtain⟨A',c',hA',_,_,bK⟩:=h
 cases hA'
 obtain⟨b,o,e,hA,bG,hlen,hce,s,v,h1,h2,h3,he⟩:=bK k _ hx;subst he;exact⟨b,o,s,v,hA,bG,h1,h2,h3,hce 0 _ rfl,hce 1 _ rfl,hce 2 _ rfl,hce 3 _ rfl,hce 4 _ rfl⟩
theorem Q5(h f u:Int)(s:ByteArray)(v:Value)(w:World) :
 Calls prog 125 #[.agg #[.int .i64 h,.int .i64 f,.int .i64 u,.string s,v]] w λe w'=>e = .returned (.string s)/\Below w.heap.size w w':=by
 have HB:Hid (∀ o,Below w.heap.size w (w.alloc o)):=jq (λo=>(vQ _ w).alloc (bQ _) _);go_enter func125,ntmps125;go_wp2_with fail;go_ret;exact⟨rfl,HB.out _⟩
theorem bU.turned{base r:Nat}{w w':World}{v:Value}{ps:List (List UInt8)}(h:bU base w v ps)(ht:Turned r w w')(hr:r<base):bU base w' v ps:=ga h (λg hg=>ht.block g (by have:=(h.lt g hg).1;omega))
theorem bU.weak{base base':Nat}{w:World}{v:Value}{ps:List (List UInt8)}(h:bU base w v ps)(hb:base'<=base):bU base' w v ps:=by
 refine⟨h.1,?_⟩;rcases h.2 with h2 | ⟨g,cap,cur,h1,h2,h3⟩
 ·exact .inl h2
 ·exact .inr ⟨g,cap,cur,h1,yQ hb h2,h3⟩
def zD(ks:List (List UInt8)):List (List UInt8×Value):=ks.map λy=>(y,Value.bool true)
theorem N0(v:Value)(l:List Np.Copy)(bI:l.length<=20000)(w:World)(h:SlR fU 5 w w.heap.size v l) :
 Calls prog 124 #[v,.func (.func 125) #[] #[]] w λe w'=>∃ v',e = .returned v'/\bU w.heap.size w' v' (Np.cE (l.map (·.zone.apex)))/\Below w.heap.size w w':=by
 have HD:=jq h;obtain⟨A,c,rfl,bw,bT⟩:=al h;clear h;have nF:∀ (w:World),(Instr.makeMap 111 none).run prog w = .ok (.map (some w.heap.size)) (w.alloc (.map #[] 0)):=λw=>by
  simp[Instr.makeMap,Result.andThen]
 have kl:Hid (∀ k,(Np.cE ((l.take k).map (·.zone.apex))).length<=20000):=jq (λk=>by
  have h1:=Np.rM ((l.take k).map (·.zone.apex));rw[List.length_map,List.length_take] at h1;omega)
 go_enter func124,ntmps124;go_wp2_with fail;have so:=jq (cA.made w);have aq:Hid (Below w.heap.size w (w.alloc (.map #[] 0))):=jq ((vQ _ w).alloc (bQ _) _);have bj:w.heap.size<(w.alloc (.map #[] 0)).heap.size:=by simp
 generalize w.alloc (.map #[] 0)=w1 at *;go_loopw [6,13] (λvo i wr=>∃ k:Nat,k<=l.length/\i = .int .i64 k/\Hid (Below w.heap.size w wr)/\w.heap.size<wr.heap.size/\Hid (cA w.heap.size (zD (Np.cE ((l.take k).map (·.zone.apex)))) wr)/\Hid (bU (w.heap.size+1) wr vo (Np.cE ((l.take k).map (·.zone.apex))))) (λ_ i _=>l.length - (intOf i).toNat)
 case atStart=>exact⟨0,jQ _,rfl,aq,bj,so,jq ⟨by simp[Np.cE],.inl ⟨rfl,rfl⟩⟩⟩
 case round=>
  obtain⟨k,hk,rfl,HB,cZ,HM,HO⟩:=hrel;by_cases aa:k<l.length
  ·obtain⟨x,ab⟩:∃ x,l[k]?=some x:=⟨_,aQ aa⟩;obtain⟨b,o,sn,vz,rfl,bJ,ay,cw,fm,f0,f1,f2,f3,f4⟩:=pq (HD.out.keep g8 HB.out) ab;obtain⟨Az,cz,rfl,_,_⟩:=al fm;obtain⟨nz,iU⟩:∃ nz,x.zone.sets.length=nz:=⟨_,rfl⟩;rw[iU] at f4;obtain⟨ks,rg⟩:∃ ks,Np.cE ((l.take k).map (·.zone.apex))=ks:=⟨_,rfl⟩;have HT:Hid (Np.cE ((l.take (k+1)).map (·.zone.apex))=Np.jp ks sn.data.toList):=jq (by
    obtain⟨hl,he⟩:=cQ.1 ab;rw[fQ hl,he,List.map_append,<-rg,ay];exact Np.zG _ _)
   have pb:Hid (ks.length<=20000):=jq (by rw[<-rg];exact kl.out k);rw[rg] at HM HO;obtain⟨w2,ai⟩:∃ w2,wr.alloc (.cells #[.int .i64 x.host,.int .i64 x.frm,.int .i64 x.til,.string sn,.slice Az nz cz] 46)=w2:=⟨_,rfl⟩;have ac:Below wr.heap.size wr w2:=by rw[<-ai];exact (vQ _ _).alloc (bQ _) _
   have aJ:wr.heap.size<w2.heap.size:=by rw[<-ai];simp
   have p0:w2.cell? ⟨wr.heap.size,0,none⟩=some (.int .i64 x.host):=by rw[<-ai];simp[go_sem]
   have p1:w2.cell? ⟨wr.heap.size,1,none⟩=some (.int .i64 x.frm):=by rw[<-ai];simp[go_sem]
   have p2:w2.cell? ⟨wr.heap.size,2,none⟩=some (.int .i64 x.til):=by rw[<-ai];simp[go_sem]
   have p3:w2.cell? ⟨wr.heap.size,3,none⟩=some (.string sn):=by rw[<-ai];simp[go_sem]
   have p4:w2.cell? ⟨wr.heap.size,4,none⟩=some (.slice Az nz cz):=by rw[<-ai];simp[go_sem]
   have aj:=jq ac;have an:=HB.out.size;clear ab ay fm iU rg ac;go_wp2_with fail;refine (Q5 _ _ _ _ _ _).mono ?_;rintro e w3 ⟨rfl,ak⟩;have ar:=jq (aj.out.trans (ak.mono (by omega)));have el:wr.heap.size<w3.heap.size:=by have:=ak.size;omega
   have n7:Hid (cA w.heap.size (zD ks) w3):=jq (HM.out.keep ar.out cZ);have gh:Hid (bU (w.heap.size+1) w3 _ ks):=jq (HO.out.keep ar.out);clear ak ai p0 p1 p2 p3 p4 f0 f1 f2 f3 f4;have gW:=Cy (P:=prog) w3 111 9 4 underlying111 underlying9 w.heap.size _ n7.out sn.data.toList (.bool false) (by kernel_rfl);unfold zD at gW;rw[Mp] at gW;by_cases hin:sn.data.toList∈ks
   ·have gw:Hid (Np.cE ((l.take (k+1)).map (·.zone.apex))=ks):=jq (by rw[HT.out,Np.Ej hin]);rw[uQ hin] at gW;clear hin;go_wp2_with fail;go_roundw
    case rel=>exact⟨k+1,by omega,by go_num,jq (HB.out.trans (ar.out.mono (by omega))),by omega,jq (by rw[gw.out];exact n7.out),jq (by rw[gw.out];exact gh.out)⟩
    case measure=>simp[intOf] <;> omega
   ·have gw:Hid (Np.cE ((l.take (k+1)).map (·.zone.apex))=ks ++ [sn.data.toList]):=jq (by rw[HT.out,Np.jp,Qc hin]);have jk:Hid ((zD ks).lookup sn.data.toList=none):=jq (Mo _ _ hin);rw[tQ hin] at gW;clear hin;go_wp2_with (first
     | (at_mapUpdate;refine Oq _ rfl _ _ _ 111 rfl 9 4 underlying111 underlying9 w.heap.size _ rfl n7.out sn.data.toList rfl (.bool true) rfl jk.out ?_;intro w5 lj kH;have H5:=jq (And.intro lj kH);have mX:Hid (bU (w.heap.size+1) w5 _ ks):=jq (bU.turned gh.out kH (by omega));have iX:wr.heap.size<w5.heap.size:=(by rw[kH.size];exact el);clear lj kH)
     | (at_builtin;refine vT _ rfl _ _ rfl (w.heap.size+1) _ ks rfl (mX.out.alloc _) w5.heap.size sn.data.toList (by simp[go_sem]) (by simp[go_sem]) (by have:=pb.out;omega) (by simp;omega) ?_;intro v6 w6 lV aT;have H6:=jq (And.intro lV aT);clear lV aT))
    go_roundw
    case rel=>exact⟨k+1,by omega,by go_num,jq ((((HB.out.trans (ar.out.mono (by omega))).trans (H5.out.2.below (bQ _))).alloc (by omega) _).trans (H6.out.2.mono (by omega))),by have:=H6.out.2.size;simp at this;omega,jq (by rw[gw.out];unfold zD;rw[List.map_append];exact (H5.out.1.keep ((vQ _ _).alloc (bQ _) _) (by omega)).keep H6.out.2 (by omega)),jq (by rw[gw.out];exact H6.out.1)⟩
    case measure=>simp[intOf] <;> omega
  ·have HE':Hid (l.take k=l):=jq (kQ (by omega));go_wp2_with fail;go_ret;exact⟨_,rfl,by have:=HO.out.weak (Nat.le_succ _);rw[HE'.out] at this;exact this,HB.out⟩
theorem ZJ{w:Np.WorldP} : Np.VWorld w↔(Np.VHosts w.hosts/\Np.nh w.hosts.length w.zones)/\Np.VRoot w.anchor w.hints:=
 ⟨λh=>⟨⟨h.hosts,h.each,h.apart⟩,h.root⟩,λh=>⟨h.1.1,h.2,h.1.2.1,h.1.2.2⟩⟩
theorem ZP(hv:Value)(hs:List Np.Host)(zv:Value)(l:List Np.Placed)(s:ByteArray)(an:s.size<=140737488355328)(ty life:Int)(dv:Value)(d:List Np.Datum)(cN:Value)(hints:List Int)(hl:l.length<=500)(hz:∀ p∈l,p.zone.sets.length<=20000)(w:World)(hR:iH w w.heap.size)
 (hh:SlR iG 3 w w.heap.size hv hs) (hd:SlR sM 3 w w.heap.size zv l) (hdd:SlR bn 3 w w.heap.size dv d) (nC:SlR jn 1 w w.heap.size cN hints) :
 Calls prog 110 #[.agg #[hv,zv,.string s,.int .i64 ty,.int .i64 life,dv,cN]] w λe w'=>e = .returned (.bool (Np.yes (Np.VWorld ⟨hs,l,⟨s.data.toList,ty,life,d⟩,hints⟩)))/\Below w.heap.size w w':=by
 obtain⟨r,hr⟩:∃ r,Np.yes (Np.VWorld ⟨hs,l,⟨s.data.toList,ty,life,d⟩,hints⟩)=r:=⟨_,rfl⟩;rw[hr];have HR:Hid (Np.yes ((Np.VHosts hs/\Np.nh hs.length l)/\Np.VRoot ⟨s.data.toList,ty,life,d⟩ hints)=r):=jq (by rw[<-hr];exact (Np.ql (ZJ (w:=⟨hs,l,⟨s.data.toList,ty,life,d⟩,hints⟩))).symm);have HH:=jq hh;have HD:=jq hd;have jL:=jq hdd;have nW:=jq nC;have gv:=jq hR;obtain⟨A1,c1,rfl,_,_⟩:=al hh;obtain⟨A2,c2,rfl,_,_⟩:=al hd;obtain⟨A3,c3,rfl,_,_⟩:=al hdd;obtain⟨A4,c4,rfl,_,_⟩:=al nC;clear hr hd hR hh hdd nC;obtain⟨W1,ap⟩:∃ W1,w.alloc (.cells #[.slice A1 hs.length c1,.slice A2 l.length c2,.string s,.int .i64 ty,.int .i64 life,.slice A3 d.length c3,.slice A4 hints.length c4] 68)=W1:=⟨_,rfl⟩;have aG:Below w.heap.size w W1:=by rw[<-ap];exact (vQ _ _).alloc (bQ _) _
 have kJ:W1.heap.size=w.heap.size+1:=by rw[<-ap];simp
 obtain⟨n1,bl⟩:∃ n,hs.length=n:=⟨_,rfl⟩;obtain⟨n2,bP⟩:∃ n,l.length=n:=⟨_,rfl⟩;obtain⟨n3,dW⟩:∃ n,d.length=n:=⟨_,rfl⟩;obtain⟨n4,eT⟩:∃ n,hints.length=n:=⟨_,rfl⟩;rw[bl,bP,dW,eT] at ap;rw[bl] at HH HR;rw[bP] at HD;rw[dW] at jL;rw[eT] at nW;rw[bl,bP,dW,eT];have k0:W1.cell? ⟨w.heap.size,0,none⟩=some (.slice A1 n1 c1):=by rw[<-ap];simp[go_sem]
 have k1:W1.cell? ⟨w.heap.size,1,none⟩=some (.slice A2 n2 c2):=by rw[<-ap];simp[go_sem]
 have k2:W1.cell? ⟨w.heap.size,2,none⟩=some (.string s):=by rw[<-ap];simp[go_sem]
 have k3:W1.cell? ⟨w.heap.size,3,none⟩=some (.int .i64 ty):=by rw[<-ap];simp[go_sem]
 have k4:W1.cell? ⟨w.heap.size,4,none⟩=some (.int .i64 life):=by rw[<-ap];simp[go_sem]
 have k5:W1.cell? ⟨w.heap.size,5,none⟩=some (.slice A3 n3 c3):=by rw[<-ap];simp[go_sem]
 have k6:W1.cell? ⟨w.heap.size,6,none⟩=some (.slice A4 n4 c4):=by rw[<-ap];simp[go_sem]
 have aP:=jq aG;have HN:=jq (And.intro bl (And.intro bP (And.intro dW eT)));clear aG bl bP dW eT;go_enter func110,ntmps110;go_wp2_with fail;refine (ZA _ hs _ (HH.out.later mI vJ aP.out)).mono ?_;rintro e w2 ⟨rfl,ac⟩;replace k0:=(cl ac (by omega)).trans k0;replace k1:=(cl ac (by omega)).trans k1;replace k2:=(cl ac (by omega)).trans k2;replace k3:=(cl ac (by omega)).trans k3;replace k4:=(cl ac (by omega)).trans k4;replace k5:=(cl ac (by omega)).trans k5;replace k6:=(cl ac (by omega)).trans k6;have aJ:=ac.size;have aj:=jq (aP.out.trans (ac.mono (by omega)));clear ac ap;obtain⟨b1,az⟩:∃ b1,Np.yes (Np.VHosts hs)=b1:=⟨_,rfl⟩;rw[az];have qE:=jq az;clear az
 cases b1 with
 | false=>
  have HX:Hid (r=false):=jq (by rw[<-HR.out];exact Np.aF λq=>by have:=Np.bB q.1.1;rw[qE.out] at this;cases this);go_wp2_with fail;go_ret;exact⟨ae HX.out.symm,aj.out⟩
 | true=>
  go_wp2_with fail;refine (Zy _ n1 ⟨_,_,rfl⟩ _ l _ ty life _ _ s rfl hl hz _ ((gv.out.keep aj.out).more aj.out.size) (HD.out.later Ct Gz aj.out)).mono ?_;rintro e w3 ⟨rfl,ak⟩;replace k0:=(cl ak (by omega)).trans k0;replace k1:=(cl ak (by omega)).trans k1;replace k2:=(cl ak (by omega)).trans k2;replace k3:=(cl ak (by omega)).trans k3;replace k4:=(cl ak (by omega)).trans k4;replace k5:=(cl ak (by omega)).trans k5;replace k6:=(cl ak (by omega)).trans k6;have el:=ak.size;have ar:=jq (aj.out.trans (ak.mono (by omega)));clear ak;obtain⟨b2,ac⟩:∃ b2,Np.yes (Np.nh n1 l)=b2:=⟨_,rfl⟩;rw[ac];have xk:=jq ac;clear ac
  cases b2 with
  | false=>
   have HX:Hid (r=false):=jq (by rw[<-HR.out];exact Np.aF λq=>by have:=Np.bB q.1.2;rw[xk.out] at this;cases this);go_wp2_with fail;go_ret;exact⟨ae HX.out.symm,ar.out⟩
  | true=>
   go_wp2_with fail;refine (ZB s an ty life _ d _ hints _ ((gv.out.keep ar.out).more ar.out.size) (jL.out.later de eN ar.out) (nW.out.later oP vK ar.out)).mono ?_;rintro e w4 ⟨rfl,av⟩;have ba:=jq (ar.out.trans (av.mono ar.out.size));clear av;have HX:Hid (Np.yes (Np.VRoot ⟨s.data.toList,ty,life,d⟩ hints)=r):=jq (by
    rw[<-HR.out];exact Np.ql ⟨λq=>⟨⟨Np.ew.1 qE.out,Np.ew.1 xk.out⟩,q⟩,λq=>q.2⟩)
   rw[HX.out];go_wp2_with fail;go_ret;exact⟨rfl,ba.out⟩
end
section
open Go.RowKit
theorem MZ:∀ (o:List (List UInt8)) (a:List UInt8) (q:Nat) (hq:q<o.length),(∀ t (h:t<o.length),t<q->Np.aD o[t] a<0)->o[q]=a->Np.dS o a=o
 | [],_,_,hq,_,_=>by simp at hq
 | x::l,a,0,_,_,he=>by
   simp at he;subst he;rw[Np.dS,Qc (by rw[Np.er.self];omega),Qb rfl]
 | x::l,a,q+1,hq,aa,he=>by
   have h0:=aa 0 (by simp) (by omega);rw[Np.dS,Qb (by simpa using h0),MZ l a q (by simpa using hq) (λt h ht=>aa (t+1) (by simpa using h) (by omega)) (by simpa using he)]
theorem Gu:∀ (o:List (List UInt8)) (a:List UInt8) (q:Nat),q<=o.length->(∀ t (h:t<o.length),t<q->Np.aD o[t] a<0)->(∀ h:q<o.length,¬ Np.aD o[q] a<0/\o[q]≠a)->Np.dS o a=o.take q++a::o.drop q
 | [],a,q,_,_,_=>by simp[Np.dS]
 | x::l,a,0,_,_,hn=>by
   obtain⟨h1,h2⟩:=hn (by simp);simp at h1 h2;rw[Np.dS,Qc (by omega),Qc h2];rfl
 | x::l,a,q+1,hq,aa,hn=>by
   have h0:=aa 0 (by simp) (by omega);rw[Np.dS,Qb (by simpa using h0),Gu l a q (by simpa using hq) (λt h ht=>aa (t+1) (by simpa using h) (by omega)) (λh=>hn (by simpa using h))];rfl
theorem YO{o:List (List UInt8)}{x:List UInt8}{m:Nat}(hm:m<o.length):(o.take (m+1)++x::o.drop (m+1)).set (m+1) o[m]=o.take m++o[m]::o.drop m:=by
 have h1:(o.take (m+1)).length=m+1:=by rw[List.length_take];omega
 rw[List.set_append_right _ _ (by omega),h1,Nat.sub_self,List.set_cons_zero,fQ hm,List.append_assoc,sQ hm];rfl
theorem Nz{o:List (List UInt8)}{x a:List UInt8}{q:Nat}(hq:q<=o.length):(o.take q++x::o.drop q).set q a=o.take q++a::o.drop q:=by
 have h1:(o.take q).length=q:=by rw[List.length_take];omega
 rw[List.set_append_right _ _ (by omega),h1,Nat.sub_self,List.set_cons_zero]
theorem YP{o:List (List UInt8)}{x:List UInt8}{j t:Nat}(ht:t<j)(hj:j<=o.length):(o.take j++x::o.drop j)[t]?=o[t]?:=by
 rw[List.getElem?_append_left (by rw[List.length_take];omega),List.getElem?_take_of_lt ht]
theorem NC{o:List (List UInt8)}{x:List UInt8}{j:Nat}(hj:j<=o.length):(o.take j++x::o.drop j)[j]?=some x:=by
 have h1:(o.take j).length=j:=by rw[List.length_take];omega
 rw[oQ (by omega),h1,Nat.sub_self];rfl
theorem NB{o:List (List UInt8)}{x:List UInt8}{j:Nat}(hj:j<=o.length):(o.take j++x::o.drop j).length=o.length+1:=by
 rw[List.length_append,List.length_cons,List.length_take,List.length_drop];omega
theorem MX:∀ (o:List (List UInt8)) (a:List UInt8),(Np.dS o a).length<=o.length+1
 | [],a=>by simp[Np.dS]
 | x::l,a=>by
   rw[Np.dS];split
   ·have:=MX l a;simp;omega
   ·split <;> simp
theorem ED:∀ (l o:List (List UInt8)),(l.foldl Np.dS o).length<=o.length+l.length
 | [],o=>by simp
 | a::l,o=>by
   have h1:=ED l (Np.dS o a);have h2:=MX o a;rw[List.foldl_cons,List.length_cons];omega
theorem JZ:∀ (l o:List (List UInt8)) (y:List UInt8),y∈l.foldl Np.dS o->y∈o\/y∈l
 | [],o,y,h=>.inl h
 | a::l,o,y,h=>by
   rcases JZ l _ y h with h1 | h1
   ·have:∀ (o:List (List UInt8)),y∈Np.dS o a->y∈o\/y=a:=by
     intro o
     induction o with
     | nil=>intro h;rw[Np.dS,List.mem_singleton] at h;exact .inr h
     | cons x l ih=>
      intro h;rw[Np.dS] at h;split at h
      ·rcases List.mem_cons.1 h with h | h
       ·exact .inl (by rw[h];simp)
       ·rcases ih h with h | h
        ·exact .inl (mQ _ h)
        ·exact .inr h
      ·split at h
       ·exact .inl h
       ·rcases List.mem_cons.1 h with h | h
        ·exact .inr h
        ·exact .inl h
    rcases this o h1 with h2 | h2
    ·exact .inl h2
    ·exact .inr (by rw[h2];simp)
   ·exact .inr (mQ _ h1)
theorem Nj{X:Nat}{w:World}{v:Value}{o:List (List UInt8)}{a:List UInt8}{N1:Nat}(h:bU X w v (o ++ [a]))(hN:o.length+1=N1):∃ g cap,v = .slice (some ⟨g,0,none⟩) N1 cap/\w.ownsRow X 9 1 (.slice (some ⟨g,0,none⟩) N1 cap) N1 ((o ++ [a]).map aB):=by
 have e:(o ++ [a]).length=N1:=by simp[hN]
 have h1:w.ownsRow X 9 1 v N1 ((o ++ [a]).map aB):=by rw[<-e];exact h
 rcases h1.2 with ⟨_,h2⟩ | ⟨g,cap,cur,rfl,_⟩
 ·omega
 ·exact⟨g,cap,rfl,h1⟩
theorem XW(v:Value)(l:List Np.Copy)(bI:l.length<=20000)(s9:∀ c∈l,c.zone.apex.length<=1000)(w:World)(h:SlR fU 5 w w.heap.size v l) :
 Calls prog 90 #[v] w λe w'=>∃ v',e = .returned v'/\bU w.heap.size w' v' (Np.apexes l)/\Below w.heap.size w w':=by
 rw[<-Np.En];have HD:=jq h;have rT:=jq s9;obtain⟨A,c,rfl,bw,bT⟩:=al h;clear h s9;obtain⟨X,hX⟩:∃ X,w.heap.size=X:=⟨_,rfl⟩;rw[hX] at HD |-;have jS:=jq hX;clear hX;go_enter func90,ntmps90;go_wp2_with fail;go_loopw [3,4] (λvo i wr=>∃ (k:Nat) (o:List (List UInt8)),k<=l.length/\i = .int .i64 k/\X<=wr.heap.size/\Hid (Below X w wr)/\Hid (bU X wr vo o)/\Hid (((l.take k).map (·.zone.apex)).foldl Np.dS []=o)) (λ_ i _=>l.length - (intOf i).toNat)
 case atStart=>exact⟨0,[],jQ _,rfl,by rw[jS.out];exact bQ _,jq (vQ _ _),jq ⟨by simp,.inl ⟨rfl,rfl⟩⟩,jq rfl⟩
 case round=>
  obtain⟨k,o,hk,rfl,x9,HB,HO,HE⟩:=hrel;have kS:Hid (o.length<=20000):=jq (by have:=ED ((l.take k).map (·.zone.apex)) [];rw[HE.out] at this;simp at this;omega);have DN:Hid (∀ y∈o,y.length<=1000):=jq (λy hy=>by
   rw[<-HE.out] at hy;rcases JZ _ _ _ hy with h1 | h1
   ·cases h1
   ·obtain⟨c,hc,rfl⟩:=List.mem_map.1 h1;exact rT.out c (List.mem_of_mem_take hc))
  by_cases aa:k<l.length
  ·obtain⟨x,ab⟩:∃ x,l[k]?=some x:=⟨_,aQ aa⟩;obtain⟨b,oo,sn,vz,rfl,bJ,ay,cw,fm,f0,f1,f2,f3,f4⟩:=pq (HD.out.keep g8 HB.out) ab;have rX:Hid (((l.take (k+1)).map (·.zone.apex)).foldl Np.dS []=Np.dS o sn.data.toList):=jq (by
    obtain⟨hl,he⟩:=cQ.1 ab;rw[fQ hl,he,List.map_append,List.foldl_append,HE.out,ay];rfl)
   have UV:sn.size<=1000:=by
    have h1:=rT.out x (gQ ab);rw[<-ay,aU] at h1;exact h1
   obtain⟨A0,c0,rfl⟩:=bU.form HO.out;obtain⟨N,hN⟩:∃ N,o.length=N:=⟨_,rfl⟩;have HN:=jq hN;have gu:Hid (wr.ownsRow X 9 1 (.slice A0 N c0) N (o.map aB)):=jq (by have:wr.ownsRow X 9 1 (.slice A0 o.length c0) o.length (o.map aB):=HO.out;rwa [hN] at this);have adQ:N<=20000:=by rw[<-hN];exact kS.out
   rw[hN] at HO;rw[hN];obtain⟨wo,rfl⟩:∃ wo,wo=wr:=⟨_,rfl⟩;clear ab ay fm f4 hN;go_wp2_with fail;go_loopw [6] (λp wi=>∃ q:Nat,q<=N/\p = .int .i64 q/\Hid (Below wo.heap.size wo wi)/\Hid (∀ t (h:t<o.length),t<q->Np.aD o[t] sn.data.toList<0)) (λp _=>N - (intOf p).toNat)
   case atStart=>exact⟨0,jQ _,rfl,jq (vQ _ _),jq (λt h ht=>by omega)⟩
   case round=>
    obtain⟨q,UL,rfl,ck,HQ⟩:=hrel;have rG:=ck.out.size;have At:Hid (wr.ownsRow X 9 1 (.slice A0 N c0) N (o.map aB)):=jq (ga gu.out (λg hg=>ck.out.block g (gu.out.lt g hg).2));by_cases hq:q<N
    ·obtain⟨g,rfl⟩:∃ g,A0=some ⟨g,0,none⟩:=by
      rcases At.out.2 with ⟨h1,h2⟩ | ⟨g,cap,cur,h1,_⟩
      ·omega
      ·simp only[Value.slice.injEq] at h1;exact⟨g,h1.1⟩
     have Ln:q<o.length:=by rw[HN.out];exact hq
     obtain⟨y,hy⟩:∃ y,o[q]?=some y:=⟨_,aQ Ln⟩;have r0:wr.cell? ⟨g,q,none⟩=some (aB y):=by rw[At.out.cellAt q (by omega),List.getElem?_map,hy];rfl
     have Vs:(⟨y.toArray⟩:ByteArray).size<=1000:=by
      have:=DN.out y (gQ hy)
      rw[<-aU];exact this
     have HY:Hid (o[q]'Ln=y):=jq (cQ.1 hy).2;have cC:=Gw ⟨y.toArray⟩ sn Vs UV;have e1:(⟨y.toArray⟩:ByteArray).data.toList=y:=rfl;rw[e1] at cC;have HC:=jq cC;clear cC e1 hy;by_cases fi:Np.aD y sn.data.toList<0
     ·have hd:decide (Np.aD y sn.data.toList<0)=true:=uQ fi;have sC:Hid (∀ t (h:t<o.length),t<q+1->Np.aD o[t] sn.data.toList<0):=jq (λt h ht=>by
       by_cases e:t=q
       ·subst e;rw[HY.out];exact fi
       ·exact HQ.out t h (by omega))
      obtain⟨cz,tc⟩:∃ cz,Np.aD y sn.data.toList=cz:=⟨_,rfl⟩;rw[tc] at hd HC;clear fi tc;unfold aB at r0;go_wp2_with (go_at_call 164;refine (HC.out _).mono ?_;rintro e w5 ⟨rfl,aI⟩;have cx:=jq (ck.out.trans (aI.mono rG));clear aI);go_roundw
      case rel=>exact⟨q+1,by omega,by go_num,jq cx.out,sC⟩
      case measure=>simp[intOf] <;> omega
     ·have hd:decide (Np.aD y sn.data.toList<0)=false:=tQ fi;have PO:=jq fi;obtain⟨cz,tc⟩:∃ cz,Np.aD y sn.data.toList=cz:=⟨_,rfl⟩;rw[tc] at hd HC;clear fi tc;unfold aB at r0;by_cases hey:y=sn.data.toList
      ·have cT:(y == sn.toList)=true:=by rw[dQ,hey];simp
       have wO:Hid (Np.dS o sn.data.toList=o):=jq (MZ o _ q Ln HQ.out (by rw[HY.out];exact hey));clear hey;go_wp2_with (go_at_call 164;refine (HC.out _).mono ?_;rintro e w5 ⟨rfl,aI⟩;have r0':=(aI.cell (p:=⟨g,q,none⟩) (by have:=(At.out.lt g rfl).2;dsimp only;omega)).trans r0;have cx:=jq (ck.out.trans (aI.mono rG));clear aI);go_roundw
       case rel=>exact⟨k+1,o,by omega,by go_num,by have:=cx.out.size;omega,jq (HB.out.trans (cx.out.mono x9)),jq (HO.out.keep cx.out),jq (by rw[rX.out,wO.out])⟩
       case measure=>simp[intOf] <;> omega
      ·have cT:(y == sn.toList)=false:=by rw[dQ];simpa using hey
       have wO:Hid (Np.dS o sn.data.toList=o.take q++sn.data.toList::o.drop q):=jq (Gu o _ q (by omega) HQ.out (λh=>by rw[HY.out];exact⟨PO.out,hey⟩));clear hey;obtain⟨N1,lL⟩:∃ N1,o.length+1=N1:=⟨_,rfl⟩;have EV:=HN.out;have ah:IntKind.i64.wrap ((N1:Int) - 1)=(N:Int):=by rw[show (N1:Int) - 1=N by omega];simp[IntKind.wrap,IntKind.bits,IntKind.signed];omega
       have S6:N+1=N1:=by omega
       have jj:=jq lL;clear lL EV;go_wp2_with (first | (go_at_call 164;refine (HC.out _).mono ?_;rintro e w5 ⟨rfl,aI⟩;have r0':=(aI.cell (p:=⟨g,q,none⟩) (by have:=(At.out.lt g rfl).2;dsimp only;omega)).trans r0;have cx:=jq (ck.out.trans (aI.mono rG));have mX:Hid (bU X w5 _ o):=jq (HO.out.keep cx.out);have E0:X<=w5.heap.size:=(by have:=cx.out.size;omega);clear aI) | (at_builtin;refine vT _ rfl _ _ rfl X _ o rfl (mX.out.alloc _) w5.heap.size sn.data.toList (by simp[go_sem]) (by simp[go_sem]) (by have:=kS.out;omega) (by simp;omega) ?_;intro v6 w6 lV aT;obtain⟨g6,cap6,rfl,yR⟩:=Nj lV jj.out;have DY:=jq yR;have dg:=jq ((((cx.out.mono x9).alloc E0 _).trans aT));clear lV aT yR));have gm:X<=w6.heap.size:=by have:=dg.out.size;omega
       obtain⟨wj,F2⟩:∃ wj,wj=w6:=⟨_,rfl⟩;clear F2;go_loopw [7] (λjv wi=>∃ (j:Nat) (z:List UInt8),q<=j/\j<=N/\jv = .int .i64 j/\X<=wi.heap.size/\Hid (Below X wo wi)/\Hid (wi.ownsRow X 9 1 (.slice (some ⟨g6,0,none⟩) N1 cap6) N1 ((o.take j++z::o.drop j).map aB))) (λjv _=>(intOf jv).toNat)
       case atStart=>exact⟨N,sn.data.toList,by omega,bQ _,rfl,gm,dg,jq (by rw[kQ (by rw[HN.out];exact bQ _),List.drop_eq_nil_of_le (by rw[HN.out];exact bQ _)];exact DY.out)⟩
       case round=>
        obtain⟨j,z,UM,Ft,rfl,kJ,zP,m9⟩:=hrel;have iP:j<=o.length:=by rw[HN.out];exact Ft
        have Bq:X<=g6/\g6<wr.heap.size:=m9.out.lt g6 rfl;have By:wr.cell? ⟨g6,j,none⟩=some (aB z):=by rw[m9.out.cellAt j (by omega),List.getElem?_map,NC iP];rfl
        have T0:wr.frozen? ⟨g6,j,none⟩=false:=m9.out.frozenAt j;have Uf:(0:Int)<=(j:Int):=by omega
        have Ug:(j:Int)<(N1:Int):=by omega
        have Uh:j<N1:=by omega
        by_cases Ll:q<j
        ·obtain⟨m,hm⟩:∃ m,j=m+1:=⟨j - 1,by omega⟩;have vf:m<o.length:=by omega
         obtain⟨u,hu⟩:∃ u,o[m]?=some u:=⟨_,aQ vf⟩;have vr:o[m]=u:=(cQ.1 hu).2;have fi:wr.cell? ⟨g6,m,none⟩=some (aB u):=by rw[m9.out.cellAt m (by omega),List.getElem?_map,YP (by omega) iP,hu];rfl
         have hjw:IntKind.i64.wrap ((j:Int) - 1)=(m:Int):=by rw[show (j:Int) - 1=m by omega];simp[IntKind.wrap,IntKind.bits,IntKind.signed];omega
         have jC:(0:Int)<=(m:Int):=by omega
         have K3:(m:Int)<(N1:Int):=by omega
         have iT:m<N1:=by omega
         have Kx:decide ((q:Int)<(j:Int))=true:=uQ (by omega);have cP:Hid ((wr.setCell ⟨g6,j,none⟩ (aB u)).ownsRow X 9 1 (.slice (some ⟨g6,0,none⟩) N1 cap6) N1 ((o.take m++u::o.drop m).map aB)):=jq (by
          have h1:=(World.ownsRow.stored m9.out j (aB u)).1;rw[<-List.map_set] at h1;subst hm;rw[<-vr,YO vf,vr] at h1;exact h1)
         have fI:Hid (Below X wo (wr.setCell ⟨g6,j,none⟩ (aB u))):=jq (zP.out.setCell Bq.1 _);have UN:q<=m:=by omega
         have Uu:m<=N:=by omega
         have PK:Hid (m<j):=jq (by omega);clear hm hu vr;unfold aB at By fi cP fI;go_wp2_with fail;go_roundw
         case rel=>exact⟨m,u,UN,Uu,rfl,by simp;omega,fI,cP⟩
         case measure=>have:=PK.out;simp[intOf] <;> omega
        ·have Fu:j=q:=by omega
         subst Fu;have Kx:decide ((j:Int)<(j:Int))=false:=tQ (by omega);have cP:Hid ((wr.setCell ⟨g6,j,none⟩ (.string sn)).ownsRow X 9 1 (.slice (some ⟨g6,0,none⟩) N1 cap6) N1 ((o.take j++sn.data.toList::o.drop j).map aB)):=jq (by
          have h1:=(World.ownsRow.stored m9.out j (aB sn.data.toList)).1;rw[<-List.map_set,Nz iP] at h1;exact h1)
         have fI:Hid (Below X wo (wr.setCell ⟨g6,j,none⟩ (.string sn))):=jq (zP.out.setCell Bq.1 _);have uj:Hid ((o.take j++sn.data.toList::o.drop j).length=N1):=jq (by rw[NB iP];exact jj.out);unfold aB at By;go_wp2_with fail;go_roundw
         case rel=>exact⟨k+1,_,by omega,by go_num,by simp;omega,jq (HB.out.trans fI.out),jq (by unfold bU;rw[uj.out];exact cP.out),jq (by rw[rX.out,wO.out])⟩
         case measure=>simp[intOf] <;> omega
    ·have FJ:q=N:=by omega
     have wO:Hid (Np.dS o sn.data.toList=o.take q++sn.data.toList::o.drop q):=jq (Gu o _ q (by rw[HN.out];exact UL) HQ.out (λh=>by rw[HN.out] at h;omega));clear FJ;obtain⟨N1,lL⟩:∃ N1,o.length+1=N1:=⟨_,rfl⟩;have EV:=HN.out;have ah:IntKind.i64.wrap ((N1:Int) - 1)=(N:Int):=by rw[show (N1:Int) - 1=N by omega];simp[IntKind.wrap,IntKind.bits,IntKind.signed];omega
     have S6:N+1=N1:=by omega
     have jj:=jq lL;clear lL EV;have cx:=ck;have mX:Hid (bU X wr _ o):=jq (HO.out.keep ck.out);have E0:X<=wr.heap.size:=by omega
     go_wp2_with (first | (at_builtin;refine vT _ rfl _ _ rfl X _ o rfl (mX.out.alloc _) wr.heap.size sn.data.toList (by simp[go_sem]) (by simp[go_sem]) (by have:=kS.out;omega) (by simp;omega) ?_;intro v6 w6 lV aT;obtain⟨g6,cap6,rfl,yR⟩:=Nj lV jj.out;have DY:=jq yR;have dg:=jq ((((cx.out.mono x9).alloc E0 _).trans aT));clear lV aT yR));have gm:X<=w6.heap.size:=by have:=dg.out.size;omega
     obtain⟨wj,F2⟩:∃ wj,wj=w6:=⟨_,rfl⟩;clear F2;go_loopw [7] (λjv wi=>∃ (j:Nat) (z:List UInt8),q<=j/\j<=N/\jv = .int .i64 j/\X<=wi.heap.size/\Hid (Below X wo wi)/\Hid (wi.ownsRow X 9 1 (.slice (some ⟨g6,0,none⟩) N1 cap6) N1 ((o.take j++z::o.drop j).map aB))) (λjv _=>(intOf jv).toNat)
     case atStart=>exact⟨N,sn.data.toList,by omega,bQ _,rfl,gm,dg,jq (by rw[kQ (by rw[HN.out];exact bQ _),List.drop_eq_nil_of_le (by rw[HN.out];exact bQ _)];exact DY.out)⟩
     case round=>
      obtain⟨j,z,UM,Ft,rfl,kJ,zP,m9⟩:=hrel;have iP:j<=o.length:=by rw[HN.out];exact Ft
      have Bq:X<=g6/\g6<wr.heap.size:=m9.out.lt g6 rfl;have By:wr.cell? ⟨g6,j,none⟩=some (aB z):=by rw[m9.out.cellAt j (by omega),List.getElem?_map,NC iP];rfl
      have T0:wr.frozen? ⟨g6,j,none⟩=false:=m9.out.frozenAt j;have Uf:(0:Int)<=(j:Int):=by omega
      have Ug:(j:Int)<(N1:Int):=by omega
      have Uh:j<N1:=by omega
      by_cases Ll:q<j
      ·exact absurd Ll (by omega)
      ·have Fu:j=q:=by omega
       subst Fu;have Kx:decide ((j:Int)<(j:Int))=false:=tQ (by omega);have cP:Hid ((wr.setCell ⟨g6,j,none⟩ (.string sn)).ownsRow X 9 1 (.slice (some ⟨g6,0,none⟩) N1 cap6) N1 ((o.take j++sn.data.toList::o.drop j).map aB)):=jq (by
        have h1:=(World.ownsRow.stored m9.out j (aB sn.data.toList)).1;rw[<-List.map_set,Nz iP] at h1;exact h1)
       have fI:Hid (Below X wo (wr.setCell ⟨g6,j,none⟩ (.string sn))):=jq (zP.out.setCell Bq.1 _);have uj:Hid ((o.take j++sn.data.toList::o.drop j).length=N1):=jq (by rw[NB iP];exact jj.out);unfold aB at By;go_wp2_with fail;go_roundw
       case rel=>exact⟨k+1,_,by omega,by go_num,by simp;omega,jq (HB.out.trans fI.out),jq (by unfold bU;rw[uj.out];exact cP.out),jq (by rw[rX.out,wO.out])⟩
       case measure=>simp[intOf] <;> omega
  ·have HT:Hid (l.take k=l):=jq (kQ (by omega));go_wp2_with fail;go_ret;refine⟨_,rfl,?_,HB.out⟩;have h1:=HE.out;rw[HT.out] at h1;rw[h1];exact HO.out
theorem Rg{B:Nat}{M:Nat->Prop}{w:World}(hM:∀ k,M k->B<=k):Below B w (bd w M):=
 ⟨rfl,rfl,rfl,by rw[jH];exact bQ _,λk hk=>kh (λh=>by have:=hM k h;omega)⟩
theorem SlR.around{α:Type}{R:World->Nat->List Value->α->Prop}{sz B:Nat}{w:World}{v:Value}{xs:List α}{M:Nat->Prop}(h:SlR R sz w B v xs)(hk:cY R)(hm:dw R)(hM:∀ k,M k->B<=k)(hB:B<=w.heap.size):SlR R sz (bd w M) w.heap.size v xs:=
 (h.keep hk (Rg hM)).more hm hB
theorem br.keep{α:Type}{R:World->Nat->List Value->α->Prop}{sz:Nat}{e:TypeId}{base:Nat}{M:Nat->Prop}{w w':World}{v:Value}{xs:List α}(h:br R sz e base M w v xs)(hk:cY R)(hs:fV R)(hm:dw R)(hb:Below w.heap.size w w'):br R sz e base M w' v xs:=by
 refine h.leaves hk hs hm (Leaves'.of_below hb) (λg hg=>?_);obtain⟨rows,h1,h2,h3,h4⟩:=h;exact⟨hb.block g (h2.lt g hg).2,h3 g hg⟩
theorem br.lt{α:Type}{R:World->Nat->List Value->α->Prop}{sz:Nat}{e:TypeId}{base:Nat}{M:Nat->Prop}{w:World}{v:Value}{xs:List α}(h:br R sz e base M w v xs):∀ g,v.ownBlock=some g->base<=g/\g<w.heap.size:=by
 obtain⟨rows,h1,h2,h3,h4⟩:=h;exact h2.lt
theorem br.formN{α:Type}{R:World->Nat->List Value->α->Prop}{sz:Nat}{e:TypeId}{base:Nat}{M:Nat->Prop}{w:World}{v:Value}{xs:List α}{n:Nat}(h:br R sz e base M w v xs)(hn:xs.length=n):∃ A c,v = .slice A n c:=by
 subst hn;exact h.form
theorem br.slr_sans{α:Type}{R:World->Nat->List Value->α->Prop}{sz:Nat}{e:TypeId}{base:Nat}{M M':Nat->Prop}{w:World}{v:Value}{xs:List α}(hs:fV R)(hm:dw R)(h:br R sz e base M w v xs)(hM:∀ k,M' k->M k/\v.ownBlock≠some k)(hl:xs.length<=140737488355328):SlR R sz (bd w M') w.heap.size v xs:=by
 obtain⟨rows,h1,h2,h3,h4⟩:=h;have h5:bL R sz e base w.heap.size (bd w M') v xs:=⟨rows,h1,ga h2 (λg hg=>kh (λhm'=>(hM g hm').2 hg)),λi r x hr hx=>⟨(h4 i r x hr hx).1,hs _ _ _ _ _ _ (λk hk=>(hM k hk).1) (h4 i r x hr hx).2⟩⟩;have h6:=h5.slr hm (by rw[jH];exact bQ _) hl;rwa [jH] at h6
theorem Leaves'.slr{α:Type}{R:World->Nat->List Value->α->Prop}{sz:Nat}(hk:cY R)(hs:fV R)(hm:dw R){M M':Nat->Prop}{w w':World}(h:Leaves' M w w' M'){v:Value}{xs:List α}(hr:SlR R sz (bd w M) w.heap.size v xs):SlR R sz (bd w' M') w'.heap.size v xs:=by
 have hb:Below w.heap.size (bd w M) (bd w' λk=>M k\/M' k):=by
  refine⟨h.os,h.tape,h.output,by rw[jH,jH];exact h.size,λk hk=>?_⟩;by_cases hm:M k
  ·rw[tS hm,tS (Or.inl hm)];have h1:k<w'.heap.size:=lQ hk h.size;simp[hk,h1]
  ·have hk':=h.keep k hk hm;rw[kh hm,kh (λe=>e.elim hm hk'.1)];exact hk'.2
 exact ((hr.keep hk hb).more hm h.size).sans hs (λ_ e=>.inr e)
def G5{α:Type}(R:World->Nat->List Value->α->Prop)(B n:Nat)(w:World)(e:List Value)(x:α):Prop:=∀ M:Nat->Prop,(∀ k,M k->B<=k/\k<n)->R (bd w M) w.heap.size e x
def fR{α:Type}(R:World->Nat->List Value->α->Prop)(sz B n:Nat)(w:World)(v:Value)(xs:List α):Prop:=∀ M:Nat->Prop,(∀ k,M k->B<=k/\k<n)->SlR R sz (bd w M) w.heap.size v xs
theorem G5.all{α:Type}{R:World->Nat->List Value->α->Prop}{B n:Nat}{w:World}{e:List Value}{x:α}(h:G5 R B n w e x)(hs:fV R):R w w.heap.size e x:=hs.all (h (λ_=>False) (λ_ e=>e.elim))
theorem fR.all{α:Type}{R:World->Nat->List Value->α->Prop}{sz B n:Nat}{w:World}{v:Value}{xs:List α}(h:fR R sz B n w v xs)(hs:fV R):SlR R sz w w.heap.size v xs:=(h (λ_=>False) (λ_ e=>e.elim)).all hs
theorem zr:fV fU:=λ_ _ _ _ _ _ hM ⟨s,v,h1,h2,h3,h5⟩=>⟨s,v,h1,h2,h3.sans mb hM,h5⟩
theorem bL.formL{α:Type}{R:World->Nat->List Value->α->Prop}{sz:Nat}{e:TypeId}{base B:Nat}{w:World}{v:Value}{xs:List α}(h:bL R sz e base B w v xs):∃ A c,v = .slice A xs.length c:=by
 obtain⟨rows,_,h2,_⟩:=h;exact vC h2
theorem bL.setLow{α:Type}{R:World->Nat->List Value->α->Prop}{sz:Nat}{e:TypeId}{base B:Nat}{w:World}{v:Value}{xs:List α}(h:bL R sz e base B w v xs)(hr:∀ w' r x,R w B r x->R w' B r x){p:Addr}(hp:p.block<base)(u:Value):bL R sz e base B (w.setCell p u) v xs:=by
 obtain⟨rows,h1,h2,h3⟩:=h;exact⟨rows,h1,ownsRow_setCell_below h2 hp u,λi r x hr' hx=>⟨(h3 i r x hr' hx).1,hr _ _ _ (h3 i r x hr' hx).2⟩⟩
theorem bL.sans{α:Type}{R:World->Nat->List Value->α->Prop}{sz:Nat}{e:TypeId}{base B:Nat}{w:World}{v:Value}{xs:List α}(h:bL R sz e base B w v xs){M:Nat->Prop}(hM:∀ k,M k->k<base)(hr:∀ r x,R w B r x->R (bd w M) B r x):bL R sz e base B (bd w M) v xs:=by
 obtain⟨rows,h1,h2,h3⟩:=h;exact⟨rows,h1,ga h2 (λg hg=>kh (λhm=>by have:=(h2.lt g hg).1;have:=hM g hm;omega)),λi r x hr' hx=>⟨(h3 i r x hr' hx).1,hr _ _ (h3 i r x hr' hx).2⟩⟩
def G6(n:Nat)(w:World)(dv sv:Value)(d:List Np.Datum)(g:List Np.Sig):Prop:=∀ M:Nat->Prop,(∀ k,M k->k<n)->SlR bn 3 (bd w M) w.heap.size dv d/\SlR dj 6 (bd w M) w.heap.size sv g
theorem RD(s:ByteArray)(ty life:Int)(dv:Value)(d:List Np.Datum)(sv:Value)(g:List Np.Sig)(qX:d.length<=1000000)(yu:g.length<=1000000)(w:World)(hd:SlR bn 3 w w.heap.size dv d)(hg:SlR dj 6 w w.heap.size sv g) :
 Calls prog 71 #[.agg #[.string s,.int .i64 ty,.int .i64 life,dv,sv]] w λe w'=>∃ dv' sv',e = .returned (.agg #[.string s,.int .i64 ty,.int .i64 life,dv',sv'])/\G6 w.heap.size w' dv' sv' d g/\Below w.heap.size w w':=by
 have HD:=jq hd;have HG:=jq hg;obtain⟨A1,c1,rfl,_,_⟩:=al hd;obtain⟨A2,c2,rfl,_,_⟩:=al hg;clear hd hg;obtain⟨n1,bl⟩:∃ n,d.length=n:=⟨_,rfl⟩;obtain⟨n2,bP⟩:∃ n,g.length=n:=⟨_,rfl⟩;rw[bl] at HD |-;rw[bP] at HG |-;clear bl bP;obtain⟨w1,ah⟩:∃ w1,(w.alloc (.cells #[.string s,.int .i64 ty,.int .i64 life,.slice A1 n1 c1,.slice A2 n2 c2] 42)).alloc (.cells #[.string ⟨#[]⟩,.int .i64 0,.int .i64 0,.slice none 0 0,.slice none 0 0] 42)=w1:=⟨_,rfl⟩;have aq:Hid (Below w.heap.size w w1):=jq (by rw[<-ah];exact ((vQ _ _).alloc (bQ _) _).alloc (by simp) _);have bj:w1.heap.size=w.heap.size+2:=by rw[<-ah];simp
 obtain⟨X,hX⟩:∃ X,w.heap.size=X:=⟨_,rfl⟩;obtain⟨Y,hY⟩:∃ Y,X+1=Y:=⟨_,rfl⟩;have k0:w1.cell? ⟨X,0,none⟩=some (.string s):=by rw[<-ah,<-hX];simp[go_sem]
 have k1:w1.cell? ⟨X,1,none⟩=some (.int .i64 ty):=by rw[<-ah,<-hX];simp[go_sem]
 have k2:w1.cell? ⟨X,2,none⟩=some (.int .i64 life):=by rw[<-ah,<-hX];simp[go_sem]
 have k3:w1.cell? ⟨X,3,none⟩=some (.slice A1 n1 c1):=by rw[<-ah,<-hX];simp[go_sem]
 have k4:w1.cell? ⟨X,4,none⟩=some (.slice A2 n2 c2):=by rw[<-ah,<-hX];simp[go_sem]
 have kf3:w1.frozen? ⟨X,3,none⟩=false:=by rw[<-ah,<-hX];simp[go_sem]
 have kf4:w1.frozen? ⟨X,4,none⟩=false:=by rw[<-ah,<-hX];simp[go_sem]
 have BM:w1.heap[Y]?=some (.cells #[.string ⟨#[]⟩,.int .i64 0,.int .i64 0,.slice none 0 0,.slice none 0 0] 42):=by
  rw[<-ah,<-hY,<-hX]
  have:=heap_alloc_new (w.alloc (.cells #[.string s,.int .i64 ty,.int .i64 life,.slice A1 n1 c1,.slice A2 n2 c2] 42)) (.cells #[.string ⟨#[]⟩,.int .i64 0,.int .i64 0,.slice none 0 0,.slice none 0 0] 42)
  simpa using this
 have jS:=jq hX;go_enter func71,ntmps71;go_wp2_with fail;rw[hX] at HD HG aq bj;clear ah hX;refine (RB _ d qX _ ((HD.out.keep de aq.out).more eN (by omega))).mono ?_;rintro e w2 ⟨v2,rfl,kD,ac⟩;have aJ:=ac.size;replace k0:=(cl ac (by omega)).trans k0;replace k1:=(cl ac (by omega)).trans k1;replace k2:=(cl ac (by omega)).trans k2;replace k3:=(cl ac (by omega)).trans k3;replace k4:=(cl ac (by omega)).trans k4;replace kf3:=(ac.frozen (p:=⟨X,3,none⟩) (by dsimp only;omega)).trans kf3;replace kf4:=(ac.frozen (p:=⟨X,4,none⟩) (by dsimp only;omega)).trans kf4;replace BM:=(ac.block Y (by omega)).trans BM;have dG:=jq kD;have aj:=jq (aq.out.trans (ac.mono (by omega)));obtain⟨A3,c3,rfl⟩:=kD.formL;clear kD ac;obtain⟨n3,dW⟩:∃ n,d.length=n:=⟨_,rfl⟩;rw[dW] at dG |-;obtain⟨w3,ek⟩:∃ w3,w2.setCell ⟨X,3,none⟩ (.slice A3 n3 c3)=w3:=⟨_,rfl⟩;have el:w3.heap.size=w2.heap.size:=by rw[<-ek];simp
 have ar:Hid (Below X w w3):=jq (by rw[<-ek];exact aj.out.setCell (bQ _) _);have gh:Hid (bL bn 3 128 w1.heap.size w1.heap.size w3 (.slice A3 n3 c3) d):=jq (by rw[<-ek];exact dG.out.setLow (λ_ _ _ h=>h) (by dsimp only;omega) _);have j0:w3.cell? ⟨X,0,none⟩=some (.string s):=by rw[<-ek];exact (xQ _ _ _ _ (by simp)).trans k0
 have j1:w3.cell? ⟨X,1,none⟩=some (.int .i64 ty):=by rw[<-ek];exact (xQ _ _ _ _ (by simp)).trans k1
 have j2:w3.cell? ⟨X,2,none⟩=some (.int .i64 life):=by rw[<-ek];exact (xQ _ _ _ _ (by simp)).trans k2
 have j3:w3.cell? ⟨X,3,none⟩=some (.slice A3 n3 c3):=by rw[<-ek];exact World.cell?_setCell_same _ _ _ k3
 have j4:w3.cell? ⟨X,4,none⟩=some (.slice A2 n2 c2):=by rw[<-ek];exact (xQ _ _ _ _ (by simp)).trans k4
 have jf4:w3.frozen? ⟨X,4,none⟩=false:=by rw[<-ek];exact (World.frozen?_setCell _ _ _ _).trans kf4
 have jobj:=(wQ w2 ⟨X,3,none⟩ (.slice A3 n3 c3) Y (by dsimp only;omega)).trans BM;rw[ek] at jobj;go_wp2_with fail;clear ek k0 k1 k2 k3 k4 kf3 kf4 BM;refine (RC _ g yu _ ((HG.out.keep ep ar.out).more gp (by omega))).mono ?_;rintro e w4 ⟨v4,rfl,pM,av⟩;have em:=av.size;replace j0:=(cl av (by omega)).trans j0;replace j1:=(cl av (by omega)).trans j1;replace j2:=(cl av (by omega)).trans j2;replace j3:=(cl av (by omega)).trans j3;replace j4:=(cl av (by omega)).trans j4;replace jf4:=(av.frozen (p:=⟨X,4,none⟩) (by dsimp only;omega)).trans jf4;replace jobj:=(av.block Y (by omega)).trans jobj;have An:=jq pM;have lD:=jq (gh.out.keep de av (by omega));have ba:=jq (ar.out.trans (av.mono (by omega)));obtain⟨A4,c4,rfl⟩:=pM.formL;clear pM av;obtain⟨n4,eT⟩:∃ n,g.length=n:=⟨_,rfl⟩;rw[eT] at An |-;obtain⟨w5,aS⟩:∃ w5,w4.setCell ⟨X,4,none⟩ (.slice A4 n4 c4)=w5:=⟨_,rfl⟩;have iX:w5.heap.size=w4.heap.size:=by rw[<-aS];simp
 have cx:Hid (Below X w w5):=jq (by rw[<-aS];exact ba.out.setCell (bQ _) _);have mX:Hid (bL dj 6 50 w3.heap.size w3.heap.size w5 (.slice A4 n4 c4) g):=jq (by rw[<-aS];exact An.out.setLow (λ_ _ _ h=>h) (by dsimp only;omega) _);have lE:Hid (bL bn 3 128 w1.heap.size w1.heap.size w5 (.slice A3 n3 c3) d):=jq (by rw[<-aS];exact lD.out.setLow (λ_ _ _ h=>h) (by dsimp only;omega) _);have m0:w5.cell? ⟨X,0,none⟩=some (.string s):=by rw[<-aS];exact (xQ _ _ _ _ (by simp)).trans j0
 have m1:w5.cell? ⟨X,1,none⟩=some (.int .i64 ty):=by rw[<-aS];exact (xQ _ _ _ _ (by simp)).trans j1
 have m2:w5.cell? ⟨X,2,none⟩=some (.int .i64 life):=by rw[<-aS];exact (xQ _ _ _ _ (by simp)).trans j2
 have m3:w5.cell? ⟨X,3,none⟩=some (.slice A3 n3 c3):=by rw[<-aS];exact (xQ _ _ _ _ (by simp)).trans j3
 have m4:w5.cell? ⟨X,4,none⟩=some (.slice A4 n4 c4):=by rw[<-aS];exact World.cell?_setCell_same _ _ _ j4
 have mobj:=(wQ w4 ⟨X,4,none⟩ (.slice A4 n4 c4) Y (by dsimp only;omega)).trans jobj;rw[aS] at mobj;have y0:w5.cell? ⟨Y,0,none⟩=some (.string ⟨#[]⟩):=by simp[World.cell?,mobj]
 have z0:w5.frozen? ⟨Y,0,none⟩=false:=by simp[World.frozen?,mobj]
 have y1:w5.cell? ⟨Y,1,none⟩=some (.int .i64 0):=by simp[World.cell?,mobj]
 have z1:w5.frozen? ⟨Y,1,none⟩=false:=by simp[World.frozen?,mobj]
 have y2:w5.cell? ⟨Y,2,none⟩=some (.int .i64 0):=by simp[World.cell?,mobj]
 have z2:w5.frozen? ⟨Y,2,none⟩=false:=by simp[World.frozen?,mobj]
 have y3:w5.cell? ⟨Y,3,none⟩=some (.slice none 0 0):=by simp[World.cell?,mobj]
 have z3:w5.frozen? ⟨Y,3,none⟩=false:=by simp[World.frozen?,mobj]
 have y4:w5.cell? ⟨Y,4,none⟩=some (.slice none 0 0):=by simp[World.cell?,mobj]
 have z4:w5.frozen? ⟨Y,4,none⟩=false:=by simp[World.frozen?,mobj]
 go_wp2_with fail;obtain⟨W,hW⟩:∃ W,(((((w5.setCell ⟨Y,0,none⟩ (.string s)).setCell ⟨Y,1,none⟩ (.int .i64 ty)).setCell ⟨Y,2,none⟩ (.int .i64 life)).setCell ⟨Y,3,none⟩ (.slice A3 n3 c3)).setCell ⟨Y,4,none⟩ (.slice A4 n4 c4))=W:=⟨_,rfl⟩;have mi:Hid (bL bn 3 128 w1.heap.size w1.heap.size W (.slice A3 n3 c3) d):=jq (by rw[<-hW];exact (((((lE.out.setLow (λ_ _ _ h=>h) (by dsimp only;omega) _).setLow (λ_ _ _ h=>h) (by dsimp only;omega) _).setLow (λ_ _ _ h=>h) (by dsimp only;omega) _).setLow (λ_ _ _ h=>h) (by dsimp only;omega) _).setLow (λ_ _ _ h=>h) (by dsimp only;omega) _));have gu:Hid (bL dj 6 50 w3.heap.size w3.heap.size W (.slice A4 n4 c4) g):=jq (by rw[<-hW];exact (((((mX.out.setLow (λ_ _ _ h=>h) (by dsimp only;omega) _).setLow (λ_ _ _ h=>h) (by dsimp only;omega) _).setLow (λ_ _ _ h=>h) (by dsimp only;omega) _).setLow (λ_ _ _ h=>h) (by dsimp only;omega) _).setLow (λ_ _ _ h=>h) (by dsimp only;omega) _));have aP:Hid (Below X w W):=jq (by rw[<-hW];exact (((((cx.out.setCell (by dsimp only;omega) _).setCell (by dsimp only;omega) _).setCell (by dsimp only;omega) _).setCell (by dsimp only;omega) _).setCell (by dsimp only;omega) _));have B4:W.heap.size=w5.heap.size:=by rw[<-hW];simp
 have e0:W.cell? ⟨Y,0,none⟩=some (.string s):=by rw[<-hW];simp[go_sem,y0]
 have e1:W.cell? ⟨Y,1,none⟩=some (.int .i64 ty):=by rw[<-hW];simp[go_sem,y1]
 have e2:W.cell? ⟨Y,2,none⟩=some (.int .i64 life):=by rw[<-hW];simp[go_sem,y2]
 have e3:W.cell? ⟨Y,3,none⟩=some (.slice A3 n3 c3):=by rw[<-hW];simp[go_sem,y3]
 have e4:W.cell? ⟨Y,4,none⟩=some (.slice A4 n4 c4):=by rw[<-hW];simp[go_sem,y4]
 rw[hW];refine bodyPost_ret (v:=.agg #[.string s,.int .i64 ty,.int .i64 life,.slice A3 n3 c3,.slice A4 n4 c4]) ?_ rfl ⟨_,_,rfl,λM hM=>?_,by rw[jS.out];exact aP.out⟩
 ·simp[results,results71,go_sem,e0,e1,e2,e3,e4]
 ·have h1:=(mi.out.sans (M:=M) (λk hk=>by have:=hM k hk;have:=jS.out;omega) (λ_ _ h=>h)).slr eN (by rw[jH];omega) (by omega);have h2:=(gu.out.sans (M:=M) (λk hk=>by have:=hM k hk;have:=jS.out;omega) (λ_ _ h=>h)).slr gp (by rw[jH];omega) (by omega);rw[jH] at h1 h2;exact⟨h1,h2⟩
end
end Go.Proofs.YtfnopgdcaanaiaaGreatDoor
