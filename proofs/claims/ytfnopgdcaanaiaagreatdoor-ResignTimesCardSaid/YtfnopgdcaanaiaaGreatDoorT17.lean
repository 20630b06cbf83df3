/- Parts of the proof. No condition. -/
import Derived.Test.YtfnopgdcaanaiaaGreatDoorT09
import Derived.Test.YtfnopgdcaanaiaaGreatDoorT11
import Derived.Test.YtfnopgdcaanaiaaGreatDoorT13
import Derived.Test.YtfnopgdcaanaiaaGreatDoorT15
import Derived.Test.YtfnopgdcaanaiaaGreatDoorT16
set_option linter.all false
set_option maxRecDepth 100000
set_option maxHeartbeats 8000000
namespace Go.Proofs.YtfnopgdcaanaiaaGreatDoor
open Go.Proofs.Tryz
section
open Go.RowKit
theorem Yo{z:Np.Zone}(dG:z.sets.length<=20000):Np.VZone z↔(((((Np.g8 z=true/\Np.ApexH z.apex z.sets)/\Np.tR z.sets)/\Np.tS z.sets (Np.gB z))/\Np.uC z.sets (Np.gB z))/\∀ x∈z.sets,Np.fF z.apex x.sigs):=by
 constructor
 ·intro h;refine⟨⟨⟨⟨⟨h.right,h.start,h.server,h.fits⟩,λk x hx ht=>⟨λp h0 hp he=>?_,λn hn he=>?_⟩⟩,h.cuts⟩,h.sigs⟩,h.form⟩
  ·obtain⟨hk,rfl⟩:=cQ.1 hx;obtain⟨cO,rfl⟩:=cQ.1 hp;obtain⟨m,rfl⟩:∃ m,k=m+1:=⟨k - 1,by omega⟩;exact h.aliasBefore m hk ht he
  ·obtain⟨hk,rfl⟩:=cQ.1 hx;obtain⟨cO,rfl⟩:=cQ.1 hn;exact h.aliasBehind k cO ht he
 ·rintro⟨⟨⟨⟨⟨h1,h2⟩,h3⟩,h4⟩,h5⟩,h6⟩;refine⟨h1,dG,h2.start,h2.server,h2.fits,λi hi ht he=>?_,λi hi ht he=>?_,h4,h5,h6⟩
  ·exact (h3 (i+1) _ (aQ hi) ht).1 _ (by omega) (aQ (by omega)) he
  ·exact (h3 i _ (aQ (by omega)) ht).2 _ (aQ hi) he
theorem xN{P:Prop}(h:Np.yes P=false):¬ P:=λhp=>by rw[Np.dz hp] at h;cases h
theorem Fw(a:ByteArray)(ha:a.size<=140737488355328)(v:Value)(l:List Np.Signed)(dG:l.length<=20000)(w:World)(hR:dS w w.heap.size)(hd:SlR cU 5 w w.heap.size v l) :
 Calls prog 120 #[.agg #[.string a,v]] w (agQ w.heap.size w (.bool (Np.yes (Np.VZone ⟨a.data.toList,l⟩)))):=by
 obtain⟨r,hr⟩:=abY (Np.yes (Np.VZone ⟨a.data.toList,l⟩));rw[hr];have HR:Hid (Np.yes (((((Np.g8 ⟨a.data.toList,l⟩=true/\Np.ApexH a.data.toList l)/\Np.tR l)/\Np.tS l (Np.gB ⟨a.data.toList,l⟩))/\Np.uC l (Np.gB ⟨a.data.toList,l⟩))/\∀ x∈l,Np.fF a.data.toList x.sigs)=r):=jq (by
  rw[<-hr];exact (Np.xM (Yo (z:=⟨a.data.toList,l⟩) dG)).symm)
 have HD:=jq hd;have gw:=jq hR;obtain⟨A,c,rfl,aT,cu⟩:=ar hd;clear hr hd hR;have HW:Hid (∀ o o',Below w.heap.size w ((w.alloc o).alloc o')):=jq (λo o'=>((vQ _ w).alloc (bQ _) _).alloc (by simp) _);go_enter func120,ntmps120;go_wp2_with fail;obtain⟨w1,am⟩:=abY ((w.alloc (.cells #[.string a,.slice A l.length c] 44)).alloc (.cells #[.string a,.slice A l.length c] 263));have c0:w1.cell? ⟨w.heap.size+1,0,none⟩=some (.string a):=by rw[<-am];simp[go_sem]
 have c1:w1.cell? ⟨w.heap.size+1,1,none⟩=some (.slice A l.length c):=by rw[<-am];simp[go_sem]
 have aK:w1.heap.size=w.heap.size+2:=by rw[<-am];simp
 have aD:Hid (Below w.heap.size w w1):=jq (by rw[<-am];exact HW.out _ _);rw[am];clear am;refine (YP a ha _ l dG _ ((gw.out.keep aD.out).more (by omega)) (HD.out.later da gm aD.out)).mono ?_;rintro e w2 ⟨rfl,ab⟩;have aC:=ab.size;have ai:=aaK aD ab;have d0:w2.cell? ⟨w.heap.size+1,0,none⟩=some (.string a):=aaJ ab c0;have d1:w2.cell? ⟨w.heap.size+1,1,none⟩=some (.slice A l.length c):=aaJ ab c1;clear ab c0 c1
 cases iq:Np.g8 ⟨a.data.toList,l⟩ with
 | false=>
  have HX:Hid (r=false):=jq (by rw[<-HR.out];exact Np.bP λh=>by rw[iq] at h;cases h.1.1.1.1.1);clear iq;go_wp2_with fail;go_ret;exact⟨aj HX.out.symm,ai.out⟩
 | true=>
  have mj:=jq iq;have ho:=Np.VZone.inOrder iq;have HS:=jq (Xk ho);have wn:=iq;unfold Np.g8 at wn;simp only[Bool.and_eq_true] at wn;have NA:=jq wn.1.1;have HV:Hid (∀ x∈l,Np.aG x.set.name=true):=jq (λx hx=>Fn (Np.Ds wn.2 x hx));clear iq wn ho;go_wp2_with fail;refine (PE a ha NA.out _ l dG HV.out HS.out _ (HD.out.later da gm ai.out)).mono ?_;rintro e w3 ⟨rfl,ae⟩;have gh:=ae.size;have ay:=aaK ai ae;replace d0:=aaJ ae d0;replace d1:=aaJ ae d1;clear ae
  cases eE:Np.yes (Np.ApexH a.data.toList l) with
  | false=>
   have HX:Hid (r=false):=jq (by rw[<-HR.out];exact Np.bP λh=>xN eE h.1.1.1.1.2);clear eE;go_wp2_with fail;go_ret;exact⟨aj HX.out.symm,ay.out⟩
  | true=>
   have ll:=jq (Np.iz.1 eE);clear eE;go_wp2_with fail;refine (UY a _ l dG HV.out HS.out _ (HD.out.later da gm ay.out)).mono ?_;rintro e w4 ⟨⟨bv,rfl,zR⟩,ah⟩;have gX:=ah.size;have bl:=aaK ay ah;obtain⟨A2,c2,rfl,dZ,fZ⟩:=ar zR;have bC:(Np.gB ⟨a.data.toList,l⟩).length=l.length:=Np.C8 _;rw[bC] at dZ fZ zR |-;clear bC;have M9:=jq zR;clear ah zR d0 d1;go_wp2_with fail;obtain⟨w5,aB⟩:=abY (w4.alloc (.cells #[.string a,.slice A l.length c,.slice A2 l.length c2] 265));have g0:w5.cell? ⟨w4.heap.size,0,none⟩=some (.string a):=by rw[<-aB];simp[go_sem]
   have g1:w5.cell? ⟨w4.heap.size,1,none⟩=some (.slice A l.length c):=by rw[<-aB];simp[go_sem]
   have g2:w5.cell? ⟨w4.heap.size,2,none⟩=some (.slice A2 l.length c2):=by rw[<-aB];simp[go_sem]
   have jo:w5.heap.size=w4.heap.size+1:=by rw[<-aB];simp
   have rH:Hid (Below w4.heap.size w4 w5):=jq (by rw[<-aB];exact (vQ _ _).alloc (bQ _) _);have db:Hid (Below w.heap.size w w5):=aaK bl rH.out;have oH:Hid (∀ wx,Below w.heap.size w wx->w.heap.size<=wx.heap.size->SlR cU 5 wx wx.heap.size (.slice A l.length c) l):=jq (λwx hb _=>HD.out.later da gm hb);have Gd:Hid (∀ wx,Below w4.heap.size w4 wx->SlR RTx 1 wx wx.heap.size (.slice A2 l.length c2) (Np.gB ⟨a.data.toList,l⟩)):=jq (λwx hb=>M9.out.later Bq Lr hb);have HL:Hid ((Np.gB ⟨a.data.toList,l⟩).length=l.length):=jq (Np.C8 _);rw[aB];clear aB;refine (Py a _ A2 l.length c2 l dG _ (oH.out _ db.out db.out.size)).mono ?_;rintro e w6 ⟨rfl,aI⟩;have kj:=aI.size;have dB:=aaK db aI;have FF:=aaK rH aI;replace g0:=aaJ aI g0;replace g1:=aaJ aI g1;replace g2:=aaJ aI g2;clear aI
   cases vT:Np.yes (Np.tR l) with
   | false=>
    have HX:Hid (r=false):=jq (by rw[<-HR.out];exact Np.bP λh=>xN vT h.1.1.1.2);clear vT;go_wp2_with fail;go_ret;exact⟨aj HX.out.symm,dB.out⟩
   | true=>
    have ut:=jq (Np.iz.1 vT);clear vT;go_wp2_with fail;refine (Qy a _ _ l _ HL.out _ (oH.out _ dB.out dB.out.size) (Gd.out _ FF.out)).mono ?_;rintro e w7 ⟨rfl,cF⟩;have tk:=cF.size;have fD:=aaK dB cF;have MQ:=aaK FF cF;replace g0:=aaJ cF g0;replace g1:=aaJ cF g1;replace g2:=aaJ cF g2;clear cF
    cases vU:Np.yes (Np.tS l (Np.gB ⟨a.data.toList,l⟩)) with
    | false=>
     have HX:Hid (r=false):=jq (by rw[<-HR.out];exact Np.bP λh=>xN vU h.1.1.2);clear vU;go_wp2_with fail;go_ret;exact⟨aj HX.out.symm,fD.out⟩
    | true=>
     have yD:=jq (Np.iz.1 vU);clear vU;go_wp2_with fail;refine (Xd a _ _ l _ HL.out _ (oH.out _ fD.out fD.out.size) (Gd.out _ MQ.out)).mono ?_;rintro e w8 ⟨rfl,dW⟩;have rg:=dW.size;have eX:=aaK fD dW;replace g0:=aaJ dW g0;replace g1:=aaJ dW g1;replace g2:=aaJ dW g2;clear dW
     cases vV:Np.yes (Np.uC l (Np.gB ⟨a.data.toList,l⟩)) with
     | false=>
      have HX:Hid (r=false):=jq (by rw[<-HR.out];exact Np.bP λh=>xN vV h.1.2);clear vV;go_wp2_with fail;go_ret;exact⟨aj HX.out.symm,eX.out⟩
     | true=>
      have Cx:=jq (Np.iz.1 vV);clear vV;go_wp2_with fail;refine (Q0 a _ A2 l.length c2 l _ (oH.out _ eX.out eX.out.size)).mono ?_;rintro e w9 ⟨rfl,bi⟩;have wV:=bi.size;have eb:=aaK eX bi;replace g0:=aaJ bi g0;replace g1:=aaJ bi g1;replace g2:=aaJ bi g2;clear bi
      cases aU:Np.yes (∀ x∈l,Np.fF a.data.toList x.sigs) with
      | false=>
       have HX:Hid (r=false):=jq (by rw[<-HR.out];exact Np.bP λh=>xN aU h.2);clear aU;go_wp2_with fail;go_ret;exact⟨aj HX.out.symm,eb.out⟩
      | true=>
       have OX:=jq (Np.iz.1 aU);clear aU;go_wp2_with fail;go_ret;exact⟨aj (by rw[<-HR.out];exact (Np.dz ⟨⟨⟨⟨⟨mj.out,ll.out⟩,ut.out⟩,yD.out⟩,Cx.out⟩,OX.out⟩).symm),eb.out⟩
end
section
open Go.RowKit Go.MapKept
def qw(W:World)(B:Nat)(e:List Value)(p:Np.Placed):Prop:=∃ (s:ByteArray) (v:Value),s.data.toList=p.zone.apex/\s.size<=140737488355328/\SlR cU 5 W B v p.zone.sets/\e = [.int .i64 p.host,.string s,v]
theorem Bm:cj qw:=λ_ _ _ _ _ ⟨s,v,h1,h2,h3,h5⟩ hb=>⟨s,v,h1,h2,h3.keep da hb,h5⟩
theorem E2:cB qw:=λ_ _ _ _ _ ⟨s,v,h1,h2,h3,h5⟩ hb=>⟨s,v,h1,h2,h3.more gm hb,h5⟩
theorem VT{w:World}{B n c:Nat}{A:Option Addr}{xs:List Np.Placed}(h:SlR qw 3 w B (.slice A n c) xs){k:Nat}{x:Np.Placed}(hx:xs[k]?=some x):∃ (b o:Nat) (s:ByteArray) (v:Value),A=some ⟨b,o,none⟩/\b<B/\s.data.toList=x.zone.apex/\s.size<=140737488355328/\SlR cU 5 w B v x.zone.sets/\w.cell? ⟨b,o+k * 3,none⟩=some (.int .i64 x.host)/\w.cell? ⟨b,o+k * 3+1,none⟩=some (.string s)/\w.cell? ⟨b,o+k * 3+2,none⟩=some v:=by
 obtain⟨A',c',hA',_,_,aL⟩:=h
 cases hA'
 obtain⟨b,o,e,hA,bC,hlen,hce,s,v,h1,h2,h3,he⟩:=aL k _ hx;subst he;exact⟨b,o,s,v,hA,bC,h1,h2,h3,hce 0 _ rfl,hce 1 _ rfl,hce 2 _ rfl⟩
def ib(r n:Nat)(w:World):Prop:=∃ es c kvs,w.heap[r]?=some (.map es c)/\es.toList.map (λe=>(e.key,e.val))=(kvs:List (List UInt8×Value)).map (λp=>(aM p.1,p.2))/\es.size<=n
theorem ib.lt{r n:Nat}{w:World}(h:ib r n w):r<w.heap.size:=by
 obtain⟨es,c,kvs,h,_⟩:=h;exact (eQ.1 h).1
theorem ib.keep{r k:Nat}{w w':World}{n:Nat}(h:ib r k w)(hb:Below n w w')(hn:r<n):ib r k w':=by
 obtain⟨es,c,kvs,h,h2⟩:=h;exact⟨es,c,kvs,(hb.block r hn).trans h,h2⟩
theorem ib.turned{r k r':Nat}{w w':World}(h:ib r k w)(ht:Turned r' w w')(hne:r≠r'):ib r k w':=by
 obtain⟨es,c,kvs,h,h2⟩:=h;exact⟨es,c,kvs,(ht.block r hne).trans h,h2⟩
theorem ib.made(w:World):ib w.heap.size 0 (w.alloc (.map #[] 0)):=⟨#[],0,[],heap_alloc_new _ _,rfl,bQ _⟩
theorem QT(x:List UInt8):∀ (es:List MapEntry) (kvs:List (List UInt8×Value)) (i:Nat),es.map (λe=>(e.key,e.val))=kvs.map (λp=>(aM p.1,p.2))->
 (∃ j e,es[j]?=some e/\e.key=aM x/\Instr.findNow .string (aM x) es i=some (some (i+j,e.val)))\/Instr.findNow .string (aM x) es i=some none:=by
 intro es
 induction es with
 | nil=>
  intro kvs i h;exact .inr rfl
 | cons e es ih=>
  intro kvs i h
  cases kvs with
  | nil=>simp at h
  | cons p kvs=>
   obtain⟨y,u⟩:=p;simp only[List.map_cons,List.cons.injEq,Prod.mk.injEq] at h;obtain⟨⟨h1,h2⟩,h3⟩:=h;have hs:Instr.sameNow .string (aM x) e.key=some (x == y):=by rw[h1];simp only[Instr.sameNow];rw[LU]
   by_cases ep:x=y
   ·subst ep;have hb:(x == x)=true:=by simp
    rw[hb] at hs;exact .inl ⟨0,e,rfl,h1,by simp only[Instr.findNow,hs];rfl⟩
   ·have hb:(x == y)=false:=by simpa using ep
    rw[hb] at hs;rcases ih kvs (i+1) h3 with ⟨j,e',j1,j2,j3⟩ | h4
    ·exact .inl ⟨j+1,e',by simpa using j1,j2,by simp only[Instr.findNow,hs];rw[j3,show i+1+j=i+(j+1) by omega]⟩
    ·exact .inr (by simp only[Instr.findNow,hs];exact h4)
theorem UD(a:ByteArray)(P:Program)(w:World):(Instr.keyThatStays (.string a) (.string a)).run P w = .ok (.string a) w:=by
 have h1:(a == a)=true:=by
  show (a.data == a.data)=true;simp
 have:Instr.sameBits 10000 (.string a) (.string a)=true:=by simp[Instr.sameBits,h1]
 simp[Instr.keyThatStays,this]
section
variable {P:Program} {ops:Array Oper} {rest:List Oper} {o:Oper} {a:Act} {Q:Exit->Act->World->Prop}
theorem YI(w:World)(hg:o.guard=none)(m x v:Operand)(t:TypeId)(fz:o.op=Op.mapUpdate t m x v)(kt et:TypeId)(ht:P.underlying t=some (.map kt et))(hk:P.underlying kt=some .string)
 (r n:Nat) (hm:a.eval m = .map (some r)) (hr:ib r n w) (key:List UInt8) (hx:a.eval x=aM key) (val:Value) (hv:a.eval v=val)
 (hK:∀ w',ib r (n+1) w'->Turned r w w'->wpList P ops Q rest (a.put o.dst undef) w'):wpList P ops Q (o::rest) a w:=by
 obtain⟨es,c,kvs,hr,he,hn⟩:=hr;refine wpList_plain hg λK' hK'=>?_;have hc:(Instr.checkKey false 10000 kt (aM key)).run P w = .ok () w:=MapKept.run_checkKey (k:=aM key) hk (by simp[MapKept.IsKey]) false 9999;have hl:r<w.heap.size:=(eQ.1 hr).1;rcases QT key es.toList kvs 0 he with ⟨j,e,j1,j2,hf⟩ | hf
 ·have nS:(Instr.keyThatStays (((es[j]?).map (·.key)).getD (aM key)) (aM key)).run P w = .ok (aM key) w:=by
   rw[Array.getElem?_toList] at j1;rw[j1];simp only[Option.map_some,Option.getD_some];rw[j2];exact UD _ P w
  rw[Nat.zero_add] at hf;have bj:(Instr.mapUpdate t (.map (some r)) (aM key) val).run P w = .ok () { w with heap:=w.heap.setIfInBounds r (.map (es.modify j λe=>{ e with key:=aM key,val:=val }) c) }:=by
   simp[Instr.mapUpdate,run_underlying ht,MapKept.run_getObj_map hr,hc,MapKept.run_findKey hk hf,nS,MapKept.run_setObj_map _ hr,Result.andThen]
  unfold Oper.wp;simp[execOp,fz,hm,hx,hv,bj,Result.andThen];refine hK' _ _ (hK _ ⟨es.modify j λe=>{ e with key:=aM key,val:=val },c,kvs.modify j λ_=>(key,val),by simp[hl],?_,by simp;omega⟩ ⟨rfl,rfl,rfl,by simp,λi hi=>by simp[Ne.symm hi]⟩);apply List.ext_getElem?;intro i;have hi:=Qd (λl=>l[i]?) he;simp only[List.getElem?_map] at hi |-;rw[Array.toList_modify,List.getElem?_modify,List.getElem?_modify];by_cases ct:j=i
  ·subst ct;simp only[if_true]
   cases h1:es.toList[j]? <;> cases h2:kvs[j]? <;> simp[h1,h2] at hi |-
  ·simp only[Qc ct];simpa using hi
 ·have bj:(Instr.mapUpdate t (.map (some r)) (aM key) val).run P w = .ok () { w with heap:=w.heap.setIfInBounds r (.map (es.push { key:=aM key,val:=val,born:=c }) (c+1)) }:=by
   simp[Instr.mapUpdate,run_underlying ht,MapKept.run_getObj_map hr,hc,MapKept.run_findKey hk hf,MapKept.run_setObj_map _ hr,Result.andThen]
  unfold Oper.wp;simp[execOp,fz,hm,hx,hv,bj,Result.andThen];exact hK' _ _ (hK _ ⟨es.push { key:=aM key,val:=val,born:=c },c+1,kvs ++ [(key,val)],by simp[hl],by simp[he],by simp;omega⟩ ⟨rfl,rfl,rfl,by simp,λi hi=>by simp[Ne.symm hi]⟩)
end
theorem KC{α:Type}[BEq α][LawfulBEq α][DecidableEq α](l:List α)(x:α):((l.map λy=>(y,Value.bool true)).lookup x).getD (.bool false) = .bool (decide (x∈l)):=by
 induction l with
 | nil=>simp
 | cons y l ih=>
  rw[List.map_cons,List.lookup_cons];by_cases h:x=y
  ·subst h;simp
  ·have hb:(x == y)=false:=by simpa using h
   rw[hb];simp only[ih,List.mem_cons,h,false_or]
theorem KB{α:Type}[BEq α][LawfulBEq α](l:List α)(x:α)(h:x∉l):(l.map λy=>(y,Value.bool true)).lookup x=none:=by
 induction l with
 | nil=>rfl
 | cons y l ih=>
  have hb:(x == y)=false:=by
   rw[beq_eq_false_iff_ne];intro e;exact h (by simp[e])
  rw[List.map_cons,List.lookup_cons,hb];exact ih (λhm=>h (mQ _ hm))
def Np.gj(p:Np.Placed):Int×List UInt8:=(p.host,p.zone.apex)
def Np.yO(n:Nat)(p:Np.Placed):Prop:=(0<=p.host/\p.host<n)/\Np.VZone p.zone
def Np.lB(n:Nat)(l:List Np.Placed):Prop:=(∀ p∈l,Np.yO n p)/\l.Pairwise λp q=>¬ (p.host=q.host/\p.zone.apex=q.zone.apex)
theorem Yj{n k:Nat}{l:List Np.Placed}{x:Np.Placed}(hx:l[k]?=some x)(h:Np.lB n l):Np.yO n x/\Np.gj x∉(l.take k).map Np.gj:=by
 refine⟨h.1 x (gQ hx),λhm=>?_⟩;obtain⟨y,hy,he⟩:=List.mem_map.1 hm;have h1:(l.take k ++ [x]).Pairwise λp q=>¬ (p.host=q.host/\p.zone.apex=q.zone.apex):=by
  obtain⟨hl,he⟩:=cQ.1 hx
  have:l.take k ++ [x]=l.take (k+1):=by rw[fQ hl,he]
  rw[this];exact h.2.sublist (List.take_sublist _ _)
 have h2:=(List.pairwise_append.1 h1).2.2 y hy x (by simp);unfold Np.gj at he;simp only[Prod.mk.injEq] at he;exact h2 he
theorem Yk{n k:Nat}{l:List Np.Placed}{x:Np.Placed}(hx:l[k]?=some x)(h:Np.lB n (l.take k))(h1:Np.yO n x)(h2:Np.gj x∉(l.take k).map Np.gj):Np.lB n (l.take (k+1)):=by
 obtain⟨hl,he⟩:=cQ.1 hx;have ht:l.take (k+1)=l.take k ++ [x]:=by rw[fQ hl,he]
 rw[ht];refine⟨λp hp=>?_,List.pairwise_append.2 ⟨h.2,by simp,λy hy z hz Kl=>?_⟩⟩
 ·rcases List.mem_append.1 hp with hp | hp
  ·exact h.1 p hp
  ·rw[List.mem_singleton] at hp;subst hp;exact h1
 ·rw[List.mem_singleton] at hz;subst hz;exact h2 (List.mem_map.2 ⟨y,hy,by unfold Np.gj;simp[Kl.1,Kl.2]⟩)
theorem X4(hv:Value)(n:Nat)(hn:∃ A c,hv = .slice A n c)(zv:Value)(l:List Np.Placed)(sv:Value)(ty life:Int)(dv cW:Value)(s:ByteArray)(aY:sv = .string s)(hl:l.length<=500)(hz:∀ p∈l,p.zone.sets.length<=20000)(w:World)(hR:dS w w.heap.size)(hd:SlR qw 3 w w.heap.size zv l) :
 Calls prog 181 #[.agg #[hv,zv,sv,.int .i64 ty,.int .i64 life,dv,cW]] w λe w'=>e = .returned (.bool (Np.yes (Np.lB n l)))/\Below w.heap.size w w':=by
 obtain⟨r,hr⟩:=abY (Np.yes (Np.lB n l));rw[hr];have HR:=jq hr;have HD:=jq hd;have gw:=jq hR;have HZ:=jq hz;obtain⟨Ah,ch,rfl⟩:=hn;obtain⟨A,c,rfl,aT,cu⟩:=ar hd;subst aY;clear hr hd hR hz;have aaQ:∀ (w:World),(Instr.makeMap 299 none).run prog w = .ok (.map (some w.heap.size)) (w.alloc (.map #[] 0)):=λw=>by
  simp[Instr.makeMap,Result.andThen]
 have aaZ:∀ (w:World),(Instr.makeMap 111 none).run prog w = .ok (.map (some w.heap.size)) (w.alloc (.map #[] 0)):=λw=>by
  simp[Instr.makeMap,Result.andThen]
 have fJ:decide (4000<(l.length:Int))=false:=acK;go_enter func181,ntmps181;go_wp2_with fail;obtain⟨w1,am⟩:=abY (((w.alloc (.cells #[.slice Ah n ch,.slice A l.length c,.string s,.int .i64 ty,.int .i64 life,dv,cW] 68)).alloc (.map #[] 0)).alloc (.map #[] 0));obtain⟨X,hX⟩:=abY w.heap.size;obtain⟨X1,lI⟩:=abY (X+1);obtain⟨X2,zI⟩:=abY (X1+1);have qg:Hid (gT X1 [] w1):=jq (by
  rw[<-am,<-lI,<-hX];have h0:=gT.made (w.alloc (.cells #[.slice Ah n ch,.slice A l.length c,.string s,.int .i64 ty,.int .i64 life,dv,cW] 68));rw[show w.heap.size+1=(w.alloc (.cells #[.slice Ah n ch,.slice A l.length c,.string s,.int .i64 ty,.int .i64 life,dv,cW] 68)).heap.size by simp];exact h0.keep ((vQ _ _).alloc (bQ _) _) (by simp))
 have Oz:Hid (ib X2 0 w1):=jq (by
  rw[<-am,<-zI,<-lI,<-hX];have h0:=ib.made ((w.alloc (.cells #[.slice Ah n ch,.slice A l.length c,.string s,.int .i64 ty,.int .i64 life,dv,cW] 68)).alloc (.map #[] 0));simpa using h0)
 have aD:Hid (Below X w w1):=jq (by rw[<-am,<-hX];exact (((vQ _ _).alloc (bQ _) _).alloc (by simp) _).alloc (by simp;omega) _);have ye:Hid (w1.cell? ⟨X,0,none⟩=some (.slice Ah n ch)):=jq (by rw[<-am,<-hX];simp[go_sem]);have aK:X2<w1.heap.size:=by rw[<-am,<-zI,<-lI,<-hX];simp
 rw[am,hX,lI,zI];have ZX:X<X1:=by omega
 have ZY:X1<X2:=by omega
 rw[hX] at HD gw;have iF:=jq hX;clear am lI zI;go_loopw [17] (λi wr=>∃ k:Nat,k<=l.length/\i = .int .i64 k/\Hid (Below X w wr)/\X2<wr.heap.size/\Hid (wr.cell? ⟨X,0,none⟩=some (.slice Ah n ch))/\Hid (gT X1 (((l.take k).map Np.gj).map λy=>(y,Value.bool true)) wr)/\Hid (ib X2 k wr)/\Hid (Np.lB n (l.take k))) (λi _=>l.length - (intOf i).toNat)
 case atStart=>exact⟨0,jQ _,rfl,aD,aK,ye,qg,Oz,jq ⟨λp hp=>by simp at hp,by simp⟩⟩
 case round=>
  obtain⟨k,hk,rfl,HB,cg,HC,HM,HN,HV⟩:=hrel;have Sa:=HC.out;by_cases aa:k<l.length
  ·obtain⟨x,ac⟩:∃ x,l[k]?=some x:=⟨_,aQ aa⟩;obtain⟨b,o,sn,vz,rfl,du,aP,eT,fB,f0,f1,f2⟩:=VT (HD.out.keep Bm HB.out) ac;have oF:=jq (Yj (n:=n) (k:=k) ac);have dP:=jq (λh1 h2=>Yk ac HV.out h1 h2);have HF:Hid (¬ Np.yO n x->r=false):=jq (λh=>by rw[<-HR.out];exact Np.bP λq=>h (oF.out q).1);have B9:Hid (Np.gj x∈(l.take k).map Np.gj->r=false):=jq (λh=>by rw[<-HR.out];exact Np.bP λq=>(oF.out q).2 h);have HT:Hid ((l.take (k+1)).map Np.gj=(l.take k).map Np.gj ++ [Np.gj x]):=jq (by
    obtain⟨hl,he⟩:=cQ.1 ac;rw[fQ hl,he,List.map_append];rfl)
   have CS:Hid (x.zone.sets.length<=20000):=jq (HZ.out x (gQ ac));have lu:Hid (Np.gj x=(x.host,sn.data.toList)):=jq (by unfold Np.gj;rw[aP]);obtain⟨Az,cz,rfl,_,_⟩:=ar fB;obtain⟨nz,kS⟩:=abY x.zone.sets.length;have cK:=jq aP;rw[kS] at f2;have ky:Hid (SlR cU 5 wr wr.heap.size (.slice Az nz cz) x.zone.sets):=jq (by rw[<-kS];exact fB.more gm (by have:=HB.out.size;omega));obtain⟨w2,az⟩:=abY (wr.alloc (.cells #[.int .i64 x.host,.string sn,.slice Az nz cz] 72));obtain⟨w3,br⟩:=abY (w2.alloc (.cells #[.int .i64 x.host,.string sn] 301));have aC:w2.heap.size=wr.heap.size+1:=by rw[<-az];simp
   have gh:w3.heap.size=w2.heap.size+1:=by rw[<-br];simp
   have ab:Below wr.heap.size wr w2:=by rw[<-az];exact (vQ _ _).alloc (bQ _) _
   have ae:Below wr.heap.size wr w3:=by rw[<-br];exact ab.alloc (by omega) _
   have p0:w2.cell? ⟨wr.heap.size,0,none⟩=some (.int .i64 x.host):=by rw[<-az];simp[go_sem]
   have p1:w2.cell? ⟨wr.heap.size,1,none⟩=some (.string sn):=by rw[<-az];simp[go_sem]
   have q0:w3.cell? ⟨wr.heap.size,0,none⟩=some (.int .i64 x.host):=by rw[<-br,<-p0];simp[go_sem,aC]
   have q1:w3.cell? ⟨wr.heap.size,1,none⟩=some (.string sn):=by rw[<-br,<-p1];simp[go_sem,aC]
   have q2:w3.cell? ⟨wr.heap.size,2,none⟩=some (.slice Az nz cz):=by rw[<-br,<-az];simp[go_sem]
   have r0:w3.cell? ⟨wr.heap.size+1,0,none⟩=some (.int .i64 x.host):=by rw[<-br,<-aC];simp[go_sem]
   have r1:w3.cell? ⟨wr.heap.size+1,1,none⟩=some (.string sn):=by rw[<-br,<-aC];simp[go_sem]
   have lL:w3.cell? ⟨X,0,none⟩=some (.slice Ah n ch):=aaJ ae Sa;have ay:=aaK HB ae;have ku:Hid (gT X1 (((l.take k).map Np.gj).map λy=>(y,Value.bool true)) w3):=jq (HM.out.keep ae (by omega));have Gt:Hid (ib X2 k w3):=jq (HN.out.keep ae cg);have rX:Hid (SlR cU 5 w3 w3.heap.size (.slice Az nz cz) x.zone.sets):=jq ((ky.out.keep da ae).more gm ae.size);have qu:Hid (X2<w3.heap.size):=jq (by omega);have fK:(Instr.lookup 299 (.map (some X1)) (.agg #[.int .i64 x.host,.string sn]) false).run prog w3 = .ok (.bool (decide ((x.host,sn.data.toList)∈(l.take k).map Np.gj))) w3:=by
    have:=WU w3 299 4 underlying299 X1 _ ku.out (x.host,sn.data.toList) (.bool false) (by kernel_rfl)
    rw[KC] at this;exact this
   rw[<-lu.out] at fK;clear ac aP fB ab ae kS HM HN ky;by_cases g1:x.host<0
   ·have d1:decide (x.host<0)=true:=uQ g1;have HX:Hid (r=false):=jq (HF.out λh=>by have:=h.1;omega);clear g1;go_wp2_with fail;go_ret;exact⟨aj HX.out.symm,by rw[iF.out];exact ay.out⟩
   ·have d1:decide (x.host<0)=false:=tQ g1;by_cases g2:(n:Int)<=x.host
    ·have d2:decide ((n:Int)<=x.host)=true:=uQ g2;have HX:Hid (r=false):=jq (HF.out λh=>by have:=h.1;omega);clear g1 g2;go_wp2_with fail;go_ret;exact⟨aj HX.out.symm,by rw[iF.out];exact ay.out⟩
    ·have d2:decide ((n:Int)<=x.host)=false:=tQ g2;have HG:Hid (0<=x.host/\x.host<n):=jq (by omega);clear g1 g2;by_cases g3:Np.gj x∈(l.take k).map Np.gj
     ·rw[uQ g3] at fK;have HX:Hid (r=false):=jq (B9.out g3);clear g3;go_wp2_with fail;go_ret;exact⟨aj HX.out.symm,by rw[iF.out];exact ay.out⟩
     ·rw[tQ g3] at fK;have oK:=jq g3;clear g3;go_wp2_with fail;refine (Fw sn eT _ x.zone.sets CS.out w3 ((gw.out.keep ay.out).more (by have:=ay.out.size;omega)) rX.out).mono ?_;rintro e w4 ⟨rfl,ah⟩;have gX:w3.heap.size<=w4.heap.size:=ah.size;have s0:w4.cell? ⟨wr.heap.size,0,none⟩=some (.int .i64 x.host):=aaJ ah q0;have s1:w4.cell? ⟨wr.heap.size,1,none⟩=some (.string sn):=aaJ ah q1;have s2:w4.cell? ⟨wr.heap.size,2,none⟩=some (.slice Az nz cz):=aaJ ah q2;have t0:w4.cell? ⟨wr.heap.size+1,0,none⟩=some (.int .i64 x.host):=aaJ ah r0;have t1:w4.cell? ⟨wr.heap.size+1,1,none⟩=some (.string sn):=aaJ ah r1;have bl:=aaK ay ah;have Cm:Hid (gT X1 (((l.take k).map Np.gj).map λy=>(y,Value.bool true)) w4):=jq (ku.out.keep ah (by omega));have OA:Hid (ib X2 k w4):=jq (Gt.out.keep ah qu.out);have qJ:w4.cell? ⟨X,0,none⟩=some (.slice Ah n ch):=aaJ ah lL;have yf:=jq qJ;clear ah p0 p1 q0 q1 q2 r0 r1 az br f0 f1 f2 fK lL ku Gt;obtain⟨rz,iq⟩:=abY (Np.yes (Np.VZone ⟨sn.data.toList,x.zone.sets⟩));rw[iq];have mj:=jq iq;clear iq
      cases rz with
      | false=>
       have HX:Hid (r=false):=jq (HF.out λh=>by
        have h1:=h.2;have h2:x.zone=⟨sn.data.toList,x.zone.sets⟩:=by rw[cK.out]
        rw[h2] at h1;have h3:=Np.dz h1;rw[mj.out] at h3
        cases h3)
       go_wp2_with fail;go_ret;exact⟨aj HX.out.symm,by rw[iF.out];exact bl.out⟩
      | true=>
       have Pb:Hid (Np.lB n (l.take (k+1))):=jq (dP.out ⟨HG.out,by
        have h2:x.zone=⟨sn.data.toList,x.zone.sets⟩:=by rw[cK.out]
        rw[h2];exact Np.iz.1 mj.out⟩ oK.out)
       have OH:Hid ((((l.take k).map Np.gj).map λy=>(y,Value.bool true)).lookup (x.host,sn.data.toList)=none):=jq (by rw[<-lu.out];exact KB _ _ oK.out);go_wp2_with (at_mapUpdate;first
        | (refine YJ _ rfl _ _ _ 299 rfl 4 underlying299 X1 _ rfl Cm.out (x.host,sn.data.toList) rfl (.bool true) rfl OH.out ?_;intro w5 jI jn;have s1':w5.cell? ⟨wr.heap.size,1,none⟩=some (.string sn):=(jn.cell (by dsimp only;omega)).trans s1;have H5:=jq (And.intro jI jn);have OB:=jq (OA.out.turned jn (by omega));clear jI jn s0 s1 s2 t0 t1 qJ)
        | (refine YI _ rfl _ _ _ 111 rfl 9 4 underlying111 underlying9 X2 k rfl OB.out sn.data.toList rfl (.bool true) rfl ?_;intro w6 JP Kb;have H6:=jq (And.intro JP Kb);clear JP Kb))
       go_roundw
       case rel=>
        refine⟨k+1,by omega,by go_num,jq (((bl.out.trans (H5.out.2.below (by omega))).trans (H6.out.2.below (by omega)))),by rw[H6.out.2.size,H5.out.2.size];have:=qu.out;omega,jq ((H6.out.2.cell (by dsimp only;omega)).trans ((H5.out.2.cell (by dsimp only;omega)).trans yf.out)),jq ?_,jq H6.out.1,Pb⟩;have h1:=H5.out.1.keep' (w':=w6) (H6.out.2.block _ (by omega));rw[HT.out,List.map_append,lu.out];exact h1
       case measure=>simp[intOf] <;> omega
  ·have GY:Hid (Np.lB n l):=jq (by have:=HV.out;rwa [kQ (by omega)] at this);obtain⟨es,ce,kvs,hes,_,ag⟩:=HN.out;have Sk:decide ((es.size:Int)<=500)=true:=adQ;have Ee:(Builtin.len_ #[111] 3 #[.map (some X2)]).run prog wr = .ok (.int .i64 (es.size:Int)) wr:=by
    simp[Builtin.len_,run_underlying underlying111,MapKept.run_getObj_map hes,Result.andThen,goInt]
   obtain⟨m5,jI⟩:=abY es.size;rw[jI] at Ee Sk;clear hes jI;go_wp2_with fail;go_ret;exact⟨aj (by rw[<-HR.out];exact (Np.dz GY.out).symm),by rw[iF.out];exact HB.out⟩
def jx(W:World)(B:Nat)(e:List Value)(c:Np.Copy):Prop:=∃ (s:ByteArray) (v:Value),s.data.toList=c.zone.apex/\s.size<=140737488355328/\SlR cU 5 W B v c.zone.sets/\e = [.int .i64 c.host,.int .i64 c.frm,.int .i64 c.til,.string s,v]
theorem mV:cj jx:=λ_ _ _ _ _ ⟨s,v,h1,h2,h3,h5⟩ hb=>⟨s,v,h1,h2,h3.keep da hb,h5⟩
theorem rx:cB jx:=λ_ _ _ _ _ ⟨s,v,h1,h2,h3,h5⟩ hb=>⟨s,v,h1,h2,h3.more gm hb,h5⟩
theorem De{w:World}{B n c:Nat}{A:Option Addr}{xs:List Np.Copy}(h:SlR jx 5 w B (.slice A n c) xs){k:Nat}{x:Np.Copy}(hx:xs[k]?=some x):∃ (b o:Nat) (s:ByteArray) (v:Value),A=some ⟨b,o,none⟩/\b<B/\s.data.toList=x.zone.apex/\s.size<=140737488355328/\SlR cU 5 w B v x.zone.sets/\w.cell? ⟨b,o+k * 5,none⟩=some (.int .i64 x.host)/\w.cell? ⟨b,o+k * 5+1,none⟩=some (.int .i64 x.frm)/\w.cell? ⟨b,o+k * 5+2,none⟩=some (.int .i64 x.til)/\w.cell? ⟨b,o+k * 5+3,none⟩=some (.string s)/\w.cell? ⟨b,o+k * 5+4,none⟩=some v:=by
 obtain⟨A',c',hA',_,_,aL⟩:=h
 cases hA'
 obtain⟨b,o,e,hA,bC,hlen,hce,s,v,h1,h2,h3,he⟩:=aL k _ hx;subst he;exact⟨b,o,s,v,hA,bC,h1,h2,h3,hce 0 _ rfl,hce 1 _ rfl,hce 2 _ rfl,hce 3 _ rfl,hce 4 _ rfl⟩
theorem PF(h f u:Int)(s:ByteArray)(v:Value)(w:World) :
 Calls prog 125 #[.agg #[.int .i64 h,.int .i64 f,.int .i64 u,.string s,v]] w (agQ w.heap.size w (.string s)):=by
 have HB:Hid (∀ o,Below w.heap.size w (w.alloc o)):=jq (λo=>(vQ _ w).alloc (bQ _) _);go_enter func125,ntmps125;go_wp2_with fail;go_ret;exact⟨rfl,HB.out _⟩
theorem cD.turned{base r:Nat}{w w':World}{v:Value}{ps:List (List UInt8)}(h:cD base w v ps)(ht:Turned r w w')(hr:r<base):cD base w' v ps:=bY h (λg hg=>ht.block g (by have:=(h.lt g hg).1;omega))
theorem cD.weak{base base':Nat}{w:World}{v:Value}{ps:List (List UInt8)}(h:cD base w v ps)(hb:base'<=base):cD base' w v ps:=by
 refine⟨h.1,?_⟩;rcases h.2 with h2 | ⟨g,cap,cur,h1,h2,h3⟩
 ·exact .inl h2
 ·exact .inr ⟨g,cap,cur,h1,yQ hb h2,h3⟩
def xK(ks:List (List UInt8)):List (List UInt8×Value):=ks.map λy=>(y,Value.bool true)
theorem L3(v:Value)(l:List Np.Copy)(dG:l.length<=20000)(w:World)(h:SlR jx 5 w w.heap.size v l) :
 Calls prog 124 #[v,.func (.func 125) #[] #[]] w λe w'=>∃ v',e = .returned v'/\cD w.heap.size w' v' (Np.bZ (l.map (·.zone.apex)))/\Below w.heap.size w w':=by
 have HD:=jq h;obtain⟨A,c,rfl,aT,cu⟩:=ar h;clear h;have sO:∀ (w:World),(Instr.makeMap 111 none).run prog w = .ok (.map (some w.heap.size)) (w.alloc (.map #[] 0)):=λw=>by
  simp[Instr.makeMap,Result.andThen]
 have nl:Hid (∀ k,(Np.bZ ((l.take k).map (·.zone.apex))).length<=20000):=jq (λk=>by
  have h1:=Np.tL ((l.take k).map (·.zone.apex));rw[List.length_map,List.length_take] at h1;omega)
 go_enter func124,ntmps124;go_wp2_with fail;have qg:=jq (bR.made w);have aD:Hid (Below w.heap.size w (w.alloc (.map #[] 0))):=jq ((vQ _ w).alloc (bQ _) _);have aK:w.heap.size<(w.alloc (.map #[] 0)).heap.size:=by simp
 generalize w.alloc (.map #[] 0)=w1 at *;go_loopw [6,13] (λvo i wr=>∃ k:Nat,k<=l.length/\i = .int .i64 k/\Hid (Below w.heap.size w wr)/\w.heap.size<wr.heap.size/\Hid (bR w.heap.size (xK (Np.bZ ((l.take k).map (·.zone.apex)))) wr)/\Hid (cD (w.heap.size+1) wr vo (Np.bZ ((l.take k).map (·.zone.apex))))) (λ_ i _=>l.length - (intOf i).toNat)
 case atStart=>exact⟨0,jQ _,rfl,aD,aK,qg,jq ⟨by simp[Np.bZ],.inl ⟨rfl,rfl⟩⟩⟩
 case round=>
  obtain⟨k,hk,rfl,HB,cg,HM,HO⟩:=hrel;by_cases aa:k<l.length
  ·obtain⟨x,ac⟩:∃ x,l[k]?=some x:=⟨_,aQ aa⟩;obtain⟨b,o,sn,vz,rfl,du,aP,eT,fB,f0,f1,f2,f3,f4⟩:=De (HD.out.keep mV HB.out) ac;obtain⟨Az,cz,rfl,_,_⟩:=ar fB;obtain⟨nz,kS⟩:=abY x.zone.sets.length;rw[kS] at f4;obtain⟨ks,nS⟩:=abY (Np.bZ ((l.take k).map (·.zone.apex)));have HT:Hid (Np.bZ ((l.take (k+1)).map (·.zone.apex))=Np.iH ks sn.data.toList):=jq (by
    obtain⟨hl,he⟩:=cQ.1 ac;rw[fQ hl,he,List.map_append,<-nS,aP];exact Np.Fh _ _)
   have nk:Hid (ks.length<=20000):=jq (by rw[<-nS];exact nl.out k);rw[nS] at HM HO;obtain⟨w2,az⟩:=abY (wr.alloc (.cells #[.int .i64 x.host,.int .i64 x.frm,.int .i64 x.til,.string sn,.slice Az nz cz] 46));have ab:Below wr.heap.size wr w2:=by rw[<-az];exact (vQ _ _).alloc (bQ _) _
   have aC:wr.heap.size<w2.heap.size:=by rw[<-az];simp
   have p0:w2.cell? ⟨wr.heap.size,0,none⟩=some (.int .i64 x.host):=by rw[<-az];simp[go_sem]
   have p1:w2.cell? ⟨wr.heap.size,1,none⟩=some (.int .i64 x.frm):=by rw[<-az];simp[go_sem]
   have p2:w2.cell? ⟨wr.heap.size,2,none⟩=some (.int .i64 x.til):=by rw[<-az];simp[go_sem]
   have p3:w2.cell? ⟨wr.heap.size,3,none⟩=some (.string sn):=by rw[<-az];simp[go_sem]
   have p4:w2.cell? ⟨wr.heap.size,4,none⟩=some (.slice Az nz cz):=by rw[<-az];simp[go_sem]
   have ai:=jq ab;have ag:=HB.out.size;clear ac aP fB kS nS ab;go_wp2_with fail;refine (PF _ _ _ _ _ _).mono ?_;rintro e w3 ⟨rfl,ae⟩;have ay:=aaK ai ae;have gh:wr.heap.size<w3.heap.size:=by have:=ae.size;omega
   have ku:Hid (bR w.heap.size (xK ks) w3):=jq (HM.out.keep ay.out cg);have fp:Hid (cD (w.heap.size+1) w3 _ ks):=jq (HO.out.keep ay.out);clear ae az p0 p1 p2 p3 p4 f0 f1 f2 f3 f4;have gd:=Br (P:=prog) w3 111 9 4 underlying111 underlying9 w.heap.size _ ku.out sn.data.toList (.bool false) (by kernel_rfl);unfold xK at gd;rw[KC] at gd;by_cases hin:sn.data.toList∈ks
   ·have gS:Hid (Np.bZ ((l.take (k+1)).map (·.zone.apex))=ks):=jq (by rw[HT.out,Np.Hd hin]);rw[uQ hin] at gd;clear hin;go_wp2_with fail;go_roundw
    case rel=>exact⟨k+1,by omega,by go_num,aaK HB ay.out,by omega,jq (by rw[gS.out];exact ku.out),jq (by rw[gS.out];exact fp.out)⟩
    case measure=>simp[intOf] <;> omega
   ·have gS:Hid (Np.bZ ((l.take (k+1)).map (·.zone.apex))=ks ++ [sn.data.toList]):=jq (by rw[HT.out,Np.iH,Qc hin]);have oK:Hid ((xK ks).lookup sn.data.toList=none):=jq (KB _ _ hin);rw[tQ hin] at gd;clear hin;go_wp2_with (first
     | (at_mapUpdate;refine Mk _ rfl _ _ _ 111 rfl 9 4 underlying111 underlying9 w.heap.size _ rfl ku.out sn.data.toList rfl (.bool true) rfl oK.out ?_;intro w5 jI jn;have H5:=jq (And.intro jI jn);have kw:Hid (cD (w.heap.size+1) w5 _ ks):=jq (cD.turned fp.out jn (by omega));have jo:wr.heap.size<w5.heap.size:=(by rw[jn.size];exact gh);clear jI jn)
     | (at_builtin;refine YC _ rfl _ _ rfl (w.heap.size+1) _ ks rfl (kw.out.alloc _) w5.heap.size sn.data.toList (by simp[go_sem]) (by simp[go_sem]) (by have:=nk.out;omega) (by simp;omega) ?_;intro v6 w6 mD aI;have H6:=jq (And.intro mD aI);clear mD aI))
    go_roundw
    case rel=>exact⟨k+1,by omega,by go_num,jq ((((HB.out.trans (ay.out.acJ)).trans (H5.out.2.below (bQ _))).alloc (by omega) _).trans (H6.out.2.acJ)),by have:=H6.out.2.size;simp at this;omega,jq (by rw[gS.out];unfold xK;rw[List.map_append];exact (H5.out.1.keep ((vQ _ _).alloc (bQ _) _) (by omega)).keep H6.out.2 (by omega)),jq (by rw[gS.out];exact H6.out.1)⟩
    case measure=>simp[intOf] <;> omega
  ·have HE':Hid (l.take k=l):=jq (kQ (by omega));go_wp2_with fail;go_ret;exact⟨_,rfl,by have:=HO.out.weak (Nat.le_succ _);rw[HE'.out] at this;exact this,HB.out⟩
theorem Yn{w:Np.WorldP} : Np.VWorld w↔(Np.VHosts w.hosts/\Np.lB w.hosts.length w.zones)/\Np.VRoot w.anchor w.hints:=
 ⟨λh=>⟨⟨h.hosts,h.each,h.apart⟩,h.root⟩,λh=>⟨h.1.1,h.2,h.1.2.1,h.1.2.2⟩⟩
theorem Ys(hv:Value)(hs:List Np.Host)(zv:Value)(l:List Np.Placed)(s:ByteArray)(ag:s.size<=140737488355328)(ty life:Int)(dv:Value)(d:List Np.Datum)(cW:Value)(hints:List Int)(hl:l.length<=500)(hz:∀ p∈l,p.zone.sets.length<=20000)(w:World)(hR:dS w w.heap.size)
 (hh:SlR lA 3 w w.heap.size hv hs) (hd:SlR qw 3 w w.heap.size zv l) (hdd:SlR bI 3 w w.heap.size dv d) (mA:SlR eK 1 w w.heap.size cW hints) :
 Calls prog 110 #[.agg #[hv,zv,.string s,.int .i64 ty,.int .i64 life,dv,cW]] w (agQ w.heap.size w (.bool (Np.yes (Np.VWorld ⟨hs,l,⟨s.data.toList,ty,life,d⟩,hints⟩)))):=by
 obtain⟨r,hr⟩:=abY (Np.yes (Np.VWorld ⟨hs,l,⟨s.data.toList,ty,life,d⟩,hints⟩));rw[hr];have HR:Hid (Np.yes ((Np.VHosts hs/\Np.lB hs.length l)/\Np.VRoot ⟨s.data.toList,ty,life,d⟩ hints)=r):=jq (by rw[<-hr];exact (Np.xM (Yn (w:=⟨hs,l,⟨s.data.toList,ty,life,d⟩,hints⟩))).symm);have HH:=jq hh;have HD:=jq hd;have rM:=jq hdd;have oD:=jq mA;have gw:=jq hR;obtain⟨A1,c1,rfl,_,_⟩:=ar hh;obtain⟨A2,c2,rfl,_,_⟩:=ar hd;obtain⟨A3,c3,rfl,_,_⟩:=ar hdd;obtain⟨A4,c4,rfl,_,_⟩:=ar mA;clear hr hd hR hh hdd mA;obtain⟨W1,aw⟩:=abY (w.alloc (.cells #[.slice A1 hs.length c1,.slice A2 l.length c2,.string s,.int .i64 ty,.int .i64 life,.slice A3 d.length c3,.slice A4 hints.length c4] 68));have aV:Below w.heap.size w W1:=by rw[<-aw];exact (vQ _ _).alloc (bQ _) _
 have xa:W1.heap.size=w.heap.size+1:=by rw[<-aw];simp
 obtain⟨n1,co⟩:=abY hs.length;obtain⟨n2,dj⟩:=abY l.length;obtain⟨n3,fL⟩:=abY d.length;obtain⟨n4,ga⟩:=abY hints.length;rw[co,dj,fL,ga] at aw;rw[co] at HH HR;rw[dj] at HD;rw[fL] at rM;rw[ga] at oD;rw[co,dj,fL,ga];have k0:W1.cell? ⟨w.heap.size,0,none⟩=some (.slice A1 n1 c1):=by rw[<-aw];simp[go_sem]
 have k1:W1.cell? ⟨w.heap.size,1,none⟩=some (.slice A2 n2 c2):=by rw[<-aw];simp[go_sem]
 have k2:W1.cell? ⟨w.heap.size,2,none⟩=some (.string s):=by rw[<-aw];simp[go_sem]
 have k3:W1.cell? ⟨w.heap.size,3,none⟩=some (.int .i64 ty):=by rw[<-aw];simp[go_sem]
 have k4:W1.cell? ⟨w.heap.size,4,none⟩=some (.int .i64 life):=by rw[<-aw];simp[go_sem]
 have k5:W1.cell? ⟨w.heap.size,5,none⟩=some (.slice A3 n3 c3):=by rw[<-aw];simp[go_sem]
 have k6:W1.cell? ⟨w.heap.size,6,none⟩=some (.slice A4 n4 c4):=by rw[<-aw];simp[go_sem]
 have bg:=jq aV;have HN:=jq (And.intro co (And.intro dj (And.intro fL ga)));clear aV co dj fL ga;go_enter func110,ntmps110;go_wp2_with fail;refine (X7 _ hs _ (HH.out.later ry xw bg.out)).mono ?_;rintro e w2 ⟨rfl,ab⟩;replace k0:=aaJ ab k0;replace k1:=aaJ ab k1;replace k2:=aaJ ab k2;replace k3:=aaJ ab k3;replace k4:=aaJ ab k4;replace k5:=aaJ ab k5;replace k6:=aaJ ab k6;have aC:=ab.size;have ai:=aaK bg ab;clear ab aw;obtain⟨b1,aq⟩:=abY (Np.yes (Np.VHosts hs));rw[aq];have uz:=jq aq;clear aq
 cases b1 with
 | false=>
  have HX:Hid (r=false):=jq (by rw[<-HR.out];exact Np.bP λq=>by have:=Np.dz q.1.1;rw[uz.out] at this;cases this);go_wp2_with fail;go_ret;exact⟨aj HX.out.symm,ai.out⟩
 | true=>
  go_wp2_with fail;refine (X4 _ n1 ⟨_,_,rfl⟩ _ l _ ty life _ _ s rfl hl hz _ ((gw.out.keep ai.out).more ai.out.size) (HD.out.later Bm E2 ai.out)).mono ?_;rintro e w3 ⟨rfl,ae⟩;replace k0:=aaJ ae k0;replace k1:=aaJ ae k1;replace k2:=aaJ ae k2;replace k3:=aaJ ae k3;replace k4:=aaJ ae k4;replace k5:=aaJ ae k5;replace k6:=aaJ ae k6;have gh:=ae.size;have ay:=aaK ai ae;clear ae;obtain⟨b2,ab⟩:=abY (Np.yes (Np.lB n1 l));rw[ab];have yK:=jq ab;clear ab
  cases b2 with
  | false=>
   have HX:Hid (r=false):=jq (by rw[<-HR.out];exact Np.bP λq=>by have:=Np.dz q.1.2;rw[yK.out] at this;cases this);go_wp2_with fail;go_ret;exact⟨aj HX.out.symm,ay.out⟩
  | true=>
   go_wp2_with fail;refine (X9 s ag ty life _ d _ hints _ ((gw.out.keep ay.out).more ay.out.size) (rM.out.later bq bD ay.out) (oD.out.later g9 l4 ay.out)).mono ?_;rintro e w4 ⟨rfl,ah⟩;have bl:=jq (ay.out.trans (ah.mono ay.out.size));clear ah;have HX:Hid (Np.yes (Np.VRoot ⟨s.data.toList,ty,life,d⟩ hints)=r):=jq (by
    rw[<-HR.out];exact Np.xM ⟨λq=>⟨⟨Np.iz.1 uz.out,Np.iz.1 yK.out⟩,q⟩,λq=>q.2⟩)
   rw[HX.out];go_wp2_with fail;go_ret;exact⟨rfl,bl.out⟩
end
section
open Go.RowKit Go.MapKept Go.Shelf Go.Sort
theorem SO(f u f' u':Int)(w:World) :
 Calls prog 122 #[.agg #[.int .i64 f,.int .i64 u],.agg #[.int .i64 f',.int .i64 u']] w λe w'=>e = .returned (.int .i64 (Np.cL f f'))/\∃ q os,w'=grow (w.drewN q) os:=by
 go_enter func122,ntmps122;go_wp2_with (go_at_call 123;refine (uH _ _ _).mono ?_;rintro e w' ⟨rfl,rfl⟩);go_ret;exact⟨rfl,0,_,by rw[alloc_eq_grow,alloc_eq_grow,grow_grow];rfl⟩
def Np.yM(h:Np.Hist):Prop:=(1<=h.stop/\h.stop<=10000000)/\(0<=h.drift/\h.drift<=1000)
theorem Yl{h:Np.Hist} : Np.VHist h↔((Np.yM h/\Np.VWorld ⟨h.hosts,[],h.anchor,h.hints⟩)/\∀ c∈h.copies,Np.CopyOk h c)/\h.copies.Pairwise λc d=>¬ Np.pW c d:=
 ⟨λv=>⟨⟨⟨⟨v.stop,v.drift⟩,v.hosts,v.root,λp hp=>(by cases hp),List.Pairwise.nil⟩,v.each⟩,v.apart⟩,λv=>⟨v.1.1.1.1,v.1.1.1.2,v.1.1.2.hosts,v.1.1.2.root,v.1.2,v.2⟩⟩
structure nf(W:World)(X:Nat)(hv cv:Value)(stop:Int):Prop where
 c0:W.cell? ⟨X,0,none⟩=some hv
 c1:W.cell? ⟨X,1,none⟩=some cv
 c8:W.cell? ⟨X,8,none⟩=some (.int .i64 stop)
 lt:X<W.heap.size
theorem nf.keep{W W':World}{X B:Nat}{hv cv:Value}{stop:Int}(h:nf W X hv cv stop)(hb:Below B W W')(hB:X<B):nf W' X hv cv stop:=⟨(hb.cell hB).trans h.c0,(hb.cell hB).trans h.c1,(hb.cell hB).trans h.c8,lQ h.lt hb.size⟩
theorem nf.turned{W W':World}{X r:Nat}{hv cv:Value}{stop:Int}(h:nf W X hv cv stop)(ht:Turned r W W')(hr:X≠r):nf W' X hv cv stop:=⟨(ht.cell hr).trans h.c0,(ht.cell hr).trans h.c1,(ht.cell hr).trans h.c8,by rw[ht.size];exact h.lt⟩
theorem Rt{xs xs6:List dD}{l:List Np.Copy}{c:Np.Copy}{j:Nat}{g:List Np.Span}{v v':Value}(h:Np.GrpI (xs.map λx=>(x.1,x.2.1)) l)(hc:(xs6=xs/\xs[j]?=some (Np.eq c,g,v))\/(Np.eq c∉xs.map (·.1)/\xs6=xs ++ [(Np.eq c,[],.slice none 0 0)]/\j=xs.length/\g = []/\v = .slice none 0 0)):Np.GrpI ((xs6.set j (Np.eq c,g ++ [Np.hU c],v')).map λx=>(x.1,x.2.1)) (l ++ [c]):=by
 rcases hc with ⟨rfl,hj⟩ | ⟨hn,rfl,rfl,rfl,rfl⟩
 ·rw[List.map_set];exact h.old (by rw[List.getElem?_map,hj];rfl)
 ·rw[List.set_append_right _ _ (bQ _),Nat.sub_self,List.set_cons_zero,List.map_append];exact h.new (by rw[List.map_map];exact hn)
theorem JD(hv:Value)(hs:List Np.Host)(cv:Value)(l:List Np.Copy)(s:ByteArray)(ag:s.size<=140737488355328)(ty life:Int)(dv:Value)(d:List Np.Datum)(cW:Value)(hints:List Int)(drift stop:Int)(hl:l.length<=500)(hz:∀ p∈l,p.zone.sets.length<=20000)(w:World)(hR:dS w w.heap.size)
 (hh:SlR lA 3 w w.heap.size hv hs) (hd:SlR jx 5 w w.heap.size cv l) (hdd:SlR bI 3 w w.heap.size dv d) (mA:SlR eK 1 w w.heap.size cW hints) :
 Calls prog 56 #[.agg #[hv,cv,.string s,.int .i64 ty,.int .i64 life,dv,cW,.int .i64 drift,.int .i64 stop]] w λe w'=>e = .returned (.bool (Np.yes (Np.VHist ⟨hs,l,⟨s.data.toList,ty,life,d⟩,hints,drift,stop⟩)))/\Below w.heap.size w w':=by
 obtain⟨r,hr⟩:=abY (Np.yes (Np.VHist ⟨hs,l,⟨s.data.toList,ty,life,d⟩,hints,drift,stop⟩));obtain⟨my,Aa⟩:∃ h:Np.Hist,(⟨hs,l,⟨s.data.toList,ty,life,d⟩,hints,drift,stop⟩:Np.Hist)=h:=⟨_,rfl⟩;rw[hr];have HR:Hid (Np.yes (((Np.yM my/\Np.VWorld ⟨hs,[],⟨s.data.toList,ty,life,d⟩,hints⟩)/\∀ c∈l,Np.CopyOk my c)/\l.Pairwise λc d=>¬ Np.pW c d)=r):=jq (by rw[<-hr,<-Aa];exact (Np.xM (Yl (h:=⟨hs,l,⟨s.data.toList,ty,life,d⟩,hints,drift,stop⟩))).symm);have tX:Hid (Np.yM my↔(1<=stop/\stop<=10000000)/\(0<=drift/\drift<=1000)):=jq (by rw[<-Aa];exact Iff.rfl);have ng:Hid (∀ c,Np.CopyOk my c↔(0<=c.host/\c.host<hs.length)/\(0<=c.frm/\c.frm<c.til/\c.til<=stop)/\Np.VZone c.zone):=jq (λc=>by rw[<-Aa];exact⟨λh=>⟨h.host,h.times,h.zone⟩,λh=>⟨h.1,h.2.1,h.2.2⟩⟩);have HH:=jq hh;have HD:=jq hd;have rM:=jq hdd;have oD:=jq mA;have gw:=jq hR;have HZ:=jq hz;obtain⟨A1,c1,rfl,_,_⟩:=ar hh;obtain⟨A2,c2,rfl,_,_⟩:=ar hd;obtain⟨A3,c3,rfl,_,_⟩:=ar hdd;obtain⟨A4,c4,rfl,_,_⟩:=ar mA;clear hr Aa hd hR hh hdd mA hz;obtain⟨n1,co⟩:=abY hs.length;obtain⟨n2,dj⟩:=abY l.length;obtain⟨n3,fL⟩:=abY d.length;obtain⟨n4,ga⟩:=abY hints.length;rw[co] at HH ng |-;rw[dj] at HD hl |-;rw[fL] at rM |-;rw[ga] at oD |-;have HN:=jq (And.intro co (And.intro dj (And.intro fL ga)));clear co dj fL ga;obtain⟨W1,aw⟩:=abY (w.alloc (.cells #[.slice A1 n1 c1,.slice A2 n2 c2,.string s,.int .i64 ty,.int .i64 life,.slice A3 n3 c3,.slice A4 n4 c4,.int .i64 drift,.int .i64 stop] 29));have aV:Below w.heap.size w W1:=by rw[<-aw];exact (vQ _ _).alloc (bQ _) _
 have xa:W1.heap.size=w.heap.size+1:=by rw[<-aw];simp
 obtain⟨X,hX⟩:=abY w.heap.size;have iF:=jq hX;have k0:W1.cell? ⟨X,0,none⟩=some (.slice A1 n1 c1):=by rw[<-aw,<-hX];simp[go_sem]
 have k1:W1.cell? ⟨X,1,none⟩=some (.slice A2 n2 c2):=by rw[<-aw,<-hX];simp[go_sem]
 have k2:W1.cell? ⟨X,2,none⟩=some (.string s):=by rw[<-aw,<-hX];simp[go_sem]
 have k3:W1.cell? ⟨X,3,none⟩=some (.int .i64 ty):=by rw[<-aw,<-hX];simp[go_sem]
 have k4:W1.cell? ⟨X,4,none⟩=some (.int .i64 life):=by rw[<-aw,<-hX];simp[go_sem]
 have k5:W1.cell? ⟨X,5,none⟩=some (.slice A3 n3 c3):=by rw[<-aw,<-hX];simp[go_sem]
 have k6:W1.cell? ⟨X,6,none⟩=some (.slice A4 n4 c4):=by rw[<-aw,<-hX];simp[go_sem]
 have k7:W1.cell? ⟨X,7,none⟩=some (.int .i64 drift):=by rw[<-aw,<-hX];simp[go_sem]
 have k8:W1.cell? ⟨X,8,none⟩=some (.int .i64 stop):=by rw[<-aw,<-hX];simp[go_sem]
 rw[hX] at aV xa HH HD rM oD gw;rw[hX];have bg:=jq aV;clear aV;go_enter func56,ntmps56;by_cases g1:stop<1
 ·have dg1:decide (stop<1)=true:=uQ g1;have HX:Hid (r=false):=jq (by rw[<-HR.out];exact Np.bP λq=>by have:=tX.out.1 q.1.1.1;omega);clear g1;go_wp2_with fail;go_ret;exact⟨aj HX.out.symm,bg.out⟩
 have dg1:decide (stop<1)=false:=tQ g1;by_cases g2:10000000<stop
 ·have dg2:decide (10000000<stop)=true:=uQ g2;have HX:Hid (r=false):=jq (by rw[<-HR.out];exact Np.bP λq=>by have:=tX.out.1 q.1.1.1;omega);clear g2;go_wp2_with fail;go_ret;exact⟨aj HX.out.symm,bg.out⟩
 have dg2:decide (10000000<stop)=false:=tQ g2;by_cases g3:drift<0
 ·have dg3:decide (drift<0)=true:=uQ g3;have HX:Hid (r=false):=jq (by rw[<-HR.out];exact Np.bP λq=>by have:=tX.out.1 q.1.1.1;omega);clear g3;go_wp2_with fail;go_ret;exact⟨aj HX.out.symm,bg.out⟩
 have dg3:decide (drift<0)=false:=tQ g3;by_cases g4:1000<drift
 ·have dg4:decide (1000<drift)=true:=uQ g4;have HX:Hid (r=false):=jq (by rw[<-HR.out];exact Np.bP λq=>by have:=tX.out.1 q.1.1.1;omega);clear g4;go_wp2_with fail;go_ret;exact⟨aj HX.out.symm,bg.out⟩
 have dg4:decide (1000<drift)=false:=tQ g4;have d5:decide (4000<(n2:Int))=false:=acK;have MW:Hid (Np.yM my):=jq (tX.out.2 (by omega));clear g1 g2 g3 g4;go_wp2_with fail;refine (Ys _ hs _ [] s ag ty life _ d _ hints (by simp) (by simp) _ ((gw.out.keep bg.out).more (by omega)) ((HH.out.keep ry bg.out).more xw (by omega)) ⟨none,0,rfl,by simp,by simp,λi x hx=>by simp at hx⟩ ((rM.out.keep bq bg.out).more bD (by omega)) ((oD.out.keep g9 bg.out).more l4 (by omega))).mono ?_;rintro e w2 ⟨rfl,ab⟩;have aC:=ab.size;have xZ:Hid (nf w2 X (.slice A1 n1 c1) (.slice A2 n2 c2) stop):=jq (nf.keep ⟨k0,k1,k8,by omega⟩ ab (by omega));have ai:=aaK bg ab;clear ab aw k0 k1 k2 k3 k4 k5 k6 k7 k8;have k0:=xZ.out.c0;have k1:=xZ.out.c1;have IZ:=xZ.out.lt;obtain⟨b1,aq⟩:=abY (Np.yes (Np.VWorld ⟨hs,[],⟨s.data.toList,ty,life,d⟩,hints⟩));rw[aq];have uz:=jq aq;clear aq;have sO:∀ (w:World),(Instr.makeMap 184 none).run prog w = .ok (.map (some w.heap.size)) (w.alloc (.map #[] 0)):=λw=>by
  simp[Instr.makeMap,Result.andThen]
 cases b1 with
 | false=>
  have HX:Hid (r=false):=jq (by rw[<-HR.out];exact Np.bP λq=>by have:=Np.dz q.1.1.2;rw[uz.out] at this;cases this);go_wp2_with fail;go_ret;exact⟨aj HX.out.symm,ai.out⟩
 | true=>
  go_wp2_with fail;obtain⟨wm,lT⟩:=abY (w2.alloc (.map #[] 0));obtain⟨X1,lI⟩:=abY w2.heap.size;have qg:Hid (MapX (X1+1) X1 [] wm):=jq (by rw[<-lT,<-lI];exact MapX.made _ _);have Ko:wm.heap.size=X1+1:=by rw[<-lT,<-lI];simp
  have o8:Below X1 w2 wm:=by rw[<-lT,<-lI];exact (vQ _ _).alloc (bQ _) _
  have DP:X<X1:=by omega
  have BY:Hid (nf wm X (.slice A1 n1 c1) (.slice A2 n2 c2) stop):=jq (xZ.out.keep o8 DP);have B0:=aaK ai o8;rw[lT,lI];clear lT lI o8 k0 k1;have oJ:Hid (l.length=n2):=jq HN.out.2.1;go_loopw [47] (λi wr=>∃ (k:Nat) (xs:List dD),k<=n2/\i = .int .i64 k/\X1<wr.heap.size/\Hid (Below X1 wm wr)/\Hid (MapX (X1+1) X1 xs wr)/\Hid (Np.GrpI (xs.map λx=>(x.1,x.2.1)) (l.take k))/\Hid (∀ c∈l.take k,Np.CopyOk my c)) (λi _=>n2 - (intOf i).toNat)
  case atStart=>exact⟨0,[],jQ _,rfl,by omega,jq (vQ _ _),qg,jq Np.GrpI.nil,jq (by simp)⟩
  case round=>
   obtain⟨k,xs,hk,rfl,cg,bH,HM,HG,dO⟩:=hrel;have HB:=aaK B0 bH.out;have ju:=jq (BY.out.keep bH.out DP);have k0:=ju.out.c0;have k8:=ju.out.c8;by_cases aa:k<n2
   ·obtain⟨x,ac⟩:∃ x,l[k]?=some x:=⟨_,aQ (by rw[oJ.out];exact aa)⟩;obtain⟨b,o,sn,vz,rfl,du,aP,eT,fB,f0,f1,f2,f3,f4⟩:=De (HD.out.keep mV HB.out) ac;obtain⟨Az,cz,rfl,_,_⟩:=ar fB;obtain⟨nz,kS⟩:=abY x.zone.sets.length;rw[kS] at f4;have HT:Hid (l.take (k+1)=l.take k ++ [x]):=jq (by
     obtain⟨hl,he⟩:=cQ.1 ac;rw[fQ hl,he])
    have HF:Hid (¬ Np.CopyOk my x->r=false):=jq (λh=>by rw[<-HR.out];exact Np.bP λq=>h (q.1.2 x (gQ ac)));have CS:Hid (x.zone.sets.length<=20000):=jq (HZ.out x (gQ ac));have cK:=jq aP;have ky:Hid (SlR cU 5 wr wr.heap.size (.slice Az nz cz) x.zone.sets):=jq (by rw[<-kS];exact fB.more gm (by omega));obtain⟨w3,br⟩:=abY (wr.alloc (.cells #[.int .i64 x.host,.int .i64 x.frm,.int .i64 x.til,.string sn,.slice Az nz cz] 46));have gh:w3.heap.size=wr.heap.size+1:=by rw[<-br];simp
    have ae:Below wr.heap.size wr w3:=by rw[<-br];exact (vQ _ _).alloc (bQ _) _
    have p0:w3.cell? ⟨wr.heap.size,0,none⟩=some (.int .i64 x.host):=by rw[<-br];simp[go_sem]
    have p1:w3.cell? ⟨wr.heap.size,1,none⟩=some (.int .i64 x.frm):=by rw[<-br];simp[go_sem]
    have p2:w3.cell? ⟨wr.heap.size,2,none⟩=some (.int .i64 x.til):=by rw[<-br];simp[go_sem]
    have p3:w3.cell? ⟨wr.heap.size,3,none⟩=some (.string sn):=by rw[<-br];simp[go_sem]
    have p4:w3.cell? ⟨wr.heap.size,4,none⟩=some (.slice Az nz cz):=by rw[<-br];simp[go_sem]
    have q0:w3.cell? ⟨X,0,none⟩=some (.slice A1 n1 c1):=aaJ ae k0;have q8:w3.cell? ⟨X,8,none⟩=some (.int .i64 stop):=aaJ ae k8;have ay:=aaK HB ae;have Nn:=aaK bH ae;have ku:=jq (HM.out.keep ae);have rX:Hid (SlR cU 5 w3 w3.heap.size (.slice Az nz cz) x.zone.sets):=jq ((ky.out.keep da ae).more gm ae.size);clear ac aP fB kS ae ky;by_cases g1:x.host<0
    ·have dg1:decide (x.host<0)=true:=uQ g1;have HX:Hid (r=false):=jq (HF.out λh=>by have:=(ng.out x).1 h;omega);clear g1;go_wp2_with fail;go_ret;exact⟨aj HX.out.symm,ay.out⟩
    have dg1:decide (x.host<0)=false:=tQ g1;by_cases g2:(n1:Int)<=x.host
    ·have dg2:decide ((n1:Int)<=x.host)=true:=uQ g2;have HX:Hid (r=false):=jq (HF.out λh=>by have:=(ng.out x).1 h;omega);clear g2;go_wp2_with fail;go_ret;exact⟨aj HX.out.symm,ay.out⟩
    have dg2:decide ((n1:Int)<=x.host)=false:=tQ g2;by_cases g3:x.frm<0
    ·have dg3:decide (x.frm<0)=true:=uQ g3;have HX:Hid (r=false):=jq (HF.out λh=>by have:=(ng.out x).1 h;omega);clear g3;go_wp2_with fail;go_ret;exact⟨aj HX.out.symm,ay.out⟩
    have dg3:decide (x.frm<0)=false:=tQ g3;by_cases g4:x.til<=x.frm
    ·have dg4:decide (x.til<=x.frm)=true:=uQ g4;have HX:Hid (r=false):=jq (HF.out λh=>by have:=(ng.out x).1 h;omega);clear g4;go_wp2_with fail;go_ret;exact⟨aj HX.out.symm,ay.out⟩
    have dg4:decide (x.til<=x.frm)=false:=tQ g4;by_cases g5:stop<x.til
    ·have dg5:decide (stop<x.til)=true:=uQ g5;have HX:Hid (r=false):=jq (HF.out λh=>by have:=(ng.out x).1 h;omega);clear g5;go_wp2_with fail;go_ret;exact⟨aj HX.out.symm,ay.out⟩
    have dg5:decide (stop<x.til)=false:=tQ g5;have F4:Hid ((0<=x.host/\x.host<n1)/\(0<=x.frm/\x.frm<x.til/\x.til<=stop)):=jq (by omega);clear g1 g2 g3 g4 g5;go_wp2_with fail;refine (Fw sn eT _ x.zone.sets CS.out w3 ((gw.out.keep ay.out).more (by omega)) rX.out).mono ?_;rintro e w4 ⟨rfl,ah⟩;have gX:w3.heap.size<=w4.heap.size:=ah.size;have s0:w4.cell? ⟨wr.heap.size,0,none⟩=some (.int .i64 x.host):=aaJ ah p0;have s1:w4.cell? ⟨wr.heap.size,1,none⟩=some (.int .i64 x.frm):=aaJ ah p1;have s2:w4.cell? ⟨wr.heap.size,2,none⟩=some (.int .i64 x.til):=aaJ ah p2;have s3:w4.cell? ⟨wr.heap.size,3,none⟩=some (.string sn):=aaJ ah p3;have s4:w4.cell? ⟨wr.heap.size,4,none⟩=some (.slice Az nz cz):=aaJ ah p4;have bl:=aaK ay ah;have No:=aaK Nn ah;have Cm:=jq (ku.out.keep ah);clear ah p0 p1 p2 p3 p4 br f0 f1 f2 f3 f4 q0 q8 k0 k8 ku;obtain⟨rz,iq⟩:=abY (Np.yes (Np.VZone ⟨sn.data.toList,x.zone.sets⟩));rw[iq];have mj:=jq iq;clear iq
    cases rz with
    | false=>
     have HX:Hid (r=false):=jq (HF.out λh=>by
      have h1:=((ng.out x).1 h).2.2;have h2:x.zone=⟨sn.data.toList,x.zone.sets⟩:=by rw[cK.out]
      rw[h2] at h1;have h3:=Np.dz h1;rw[mj.out] at h3
      cases h3)
     go_wp2_with fail;go_ret;exact⟨aj HX.out.symm,bl.out⟩
    | true=>
     have t6:Hid (Np.CopyOk my x):=jq ((ng.out x).2 ⟨F4.out.1,F4.out.2,by
      have h2:x.zone=⟨sn.data.toList,x.zone.sets⟩:=by rw[cK.out]
      rw[h2];exact Np.iz.1 mj.out⟩)
     have OL:Hid (∀ c∈l.take (k+1),Np.CopyOk my c):=jq (λc hc=>by
      rw[HT.out] at hc;rcases List.mem_append.1 hc with hc | hc
      ·exact dO.out c hc
      ·rw[List.mem_singleton] at hc;subst hc;exact t6.out)
     have lu:Hid (Np.eq x=(x.host,sn.data.toList)):=jq (by unfold Np.eq;rw[cK.out]);obtain⟨w5,aB⟩:=abY (w4.alloc (.cells #[.int .i64 x.host,.string sn] 186));obtain⟨w6,bB⟩:=abY (w5.alloc (.cells #[.int .i64 x.frm,.int .i64 x.til] 110));have jo:w5.heap.size=w4.heap.size+1:=by rw[<-aB];simp
     have kj:w6.heap.size=w5.heap.size+1:=by rw[<-bB];simp
     have aA:Below w4.heap.size w4 w5:=by rw[<-aB];exact (vQ _ _).alloc (bQ _) _
     have aI:Below w4.heap.size w4 w6:=by rw[<-bB];exact aA.alloc (by omega) _
     have t0:w5.cell? ⟨w4.heap.size,0,none⟩=some (.int .i64 x.host):=by rw[<-aB];simp[go_sem]
     have t1:w5.cell? ⟨w4.heap.size,1,none⟩=some (.string sn):=by rw[<-aB];simp[go_sem]
     have u1:w5.cell? ⟨wr.heap.size,1,none⟩=some (.int .i64 x.frm):=aaJ aA s1;have u2:w5.cell? ⟨wr.heap.size,2,none⟩=some (.int .i64 x.til):=aaJ aA s2;have y0:w6.cell? ⟨w5.heap.size,0,none⟩=some (.int .i64 x.frm):=by rw[<-bB];simp[go_sem]
     have y1:w6.cell? ⟨w5.heap.size,1,none⟩=some (.int .i64 x.til):=by rw[<-bB];simp[go_sem]
     have Ov:=jq (Cm.out.keep aI);have dB:=aaK bl aI;have Nq:=aaK No aI;have gR:Hid (∀ (j:Nat) (g:List Np.Span) (v:Value),xs[j]?=some ((x.host,sn.data.toList),g,v)->g.length<=500):=jq (λj g v hj=>by
      have h1:=HG.out.each ((x.host,sn.data.toList),g) (List.mem_map.2 ⟨_,gQ hj,rfl⟩);simp only at h1;rw[h1];unfold Np.dV;rw[List.length_map];refine yQ (List.length_filter_le _ _) ?_;rw[List.length_take,oJ.out];omega)
     clear aA aI;go_wp2_with (first
      | (refine YF _ rfl _ _ rfl (X1+1) X1 xs rfl Ov.out (Nat.lt_succ_self _) (x.host,sn.data.toList) rfl ?_;intro w7 j7 g7 v7 xs7 DY JE JQ wH;have tY:=jq DY;have Ci:=jq JE;have Cn:=jq JQ;have O8:=jq wH;have y0':w7.cell? ⟨w5.heap.size,0,none⟩=some (.int .i64 x.frm):=(wH.cell (by dsimp only;omega)).trans y0;have y1':w7.cell? ⟨w5.heap.size,1,none⟩=some (.int .i64 x.til):=(wH.cell (by dsimp only;omega)).trans y1;have tk:w7.heap.size=w6.heap.size:=wH.size;have yu:Hid (g7.length<=100000):=jq (by rcases DY with ⟨_,hj⟩ | ⟨_,_,_,rfl,_⟩;exact yQ (gR.out _ _ _ hj) (by omega);simp);clear DY JE JQ wH)
      | (at_builtin;refine YB _ rfl _ _ rfl (X1+1) v7 g7 rfl (Cn.out.row _ (gQ Ci.out)) w5.heap.size x.frm x.til (by simp[go_sem]) y0' y1' yu.out (by omega) ?_;intro v8 w8 eH bX I1;have H8:=jq (And.intro eH (And.intro bX I1));have rg:w7.heap.size<=w8.heap.size:=bX.size;clear eH bX I1)
      | (refine YE _ w7 rfl _ _ _ rfl (X1+1) X1 xs7 Cn.out (Nat.lt_succ_self _) j7 (x.host,sn.data.toList) g7 (g7 ++ [⟨x.frm,x.til⟩]) v7 v8 Ci.out H8.out.2.1 H8.out.1 H8.out.2.2 rfl rfl rfl ?_;intro w9 JR Kc;have H9:=jq (And.intro JR Kc);clear JR Kc))
     go_roundw
     case rel=>
      have e9:Below X1 wm w9:=((Nq.out.trans (O8.out.below (bQ _))).grown H8.out.2.1 (by omega) (λq hq=>by have:=(World.ownsRow.lt (Cn.out.row _ (gQ Ci.out)) q hq).1;omega)).trans (H9.out.2.below (bQ _));refine⟨k+1,_,by omega,by go_num,by rw[H9.out.2.size];omega,jq e9,jq H9.out.1,jq ?_,OL⟩;rw[HT.out];have hc:=tY.out;rw[<-lu.out] at hc
      have:=Rt (v':=v8) HG.out hc
      rw[lu.out] at this;exact this
     case measure=>simp[intOf] <;> omega
   ·have jU:Hid (l.take k=l):=jq (kQ (by rw[oJ.out];omega));have qc:Hid (Np.GrpI (xs.map λx=>(x.1,x.2.1)) l):=jq (by have:=HG.out;rwa [jU.out] at this);have Gz:Hid (∀ c∈l,Np.CopyOk my c):=jq (by have:=dO.out;rwa [jU.out] at this);have k1:=ju.out.c1;clear HG dO jU k0 k8;go_wp2_with (at_range;refine YH _ rfl _ rfl (X1+1) X1 xs rfl HM.out ?_;intro w10 J3 vf TT;have GM:=jq J3;have BO:=aaK bH vf;clear J3 vf);go_frame;obtain⟨I,hI⟩:=abY wr.heap.size;rw[hI] at GM TT;rw[hI];have Zv:X1<I:=by omega
    have Gk:Hid (∀ x∈xs,x.2.1.length<=500/\∀ t∈x.2.1,t.frm<t.til):=jq (λx hx=>by
     have h1:=qc.out.each (x.1,x.2.1) (List.mem_map.2 ⟨x,hx,rfl⟩);simp only at h1;rw[h1];refine⟨?_,λt ht=>?_⟩
     ·unfold Np.dV;rw[List.length_map];refine yQ (List.length_filter_le _ _) ?_;rw[oJ.out];omega
     ·obtain⟨c,hc,rfl⟩:=List.mem_map.1 ht;exact (((ng.out c).1 (Gz.out c (List.mem_filter.1 hc).1)).2.1).2.1)
    have ll:Hid ((l.Pairwise λc d=>¬ Np.pW c d)↔∀ x∈xs,x.2.1.Pairwise λa b=>¬ Np.kB a b):=jq (qc.out.ok.trans ⟨λh x hx=>h (x.1,x.2.1) (List.mem_map.2 ⟨x,hx,rfl⟩),λh y hy=>by
     obtain⟨x,hx,rfl⟩:=List.mem_map.1 hy;exact h x hx⟩)
    have YW:=BY;clear ju HM bH HB hI cg k1;go_loopw [] (λwq=>∃ (seen:Array Nat) (xs':List dD),I<wq.heap.size/\Hid (Below X1 wm wq)/\Hid (RangeX (X1+1) X1 I xs' seen wq)/\Hid (xs'.length=xs.length/\∀ (j:Nat) (x':dD),xs'[j]?=some x'->∃ x:dD,xs[j]?=some x/\x'.2.1.Perm x.2.1)/\Hid (∀ (j:Nat) (x:dD),seen.contains j=true->xs[j]?=some x->x.2.1.Pairwise λa b=>¬ Np.kB a b)) (λwq=>wq.rangeLeft X1 I)
    case atStart=>exact⟨#[],xs,by omega,BO,GM,jq ⟨rfl,λj x hx=>⟨x,hx,List.Perm.refl _⟩⟩,jq (by simp)⟩
    case round=>
     obtain⟨seen,xs',DC,B2,O3,yG,GK⟩:=hrel;have Nf:=jq (BY.out.keep B2.out DP);have k1:=Nf.out.c1;go_wp2_with (at_next;refine YG _ rfl _ rfl (X1+1) X1 I xs' seen rfl O3.out (λkf=>?_) (λj p g v w11 hj Eo AG Ef hen=>?_))
     ·have no:Hid (l.Pairwise λc d=>¬ Np.pW c d):=jq (ll.out.2 λx hx=>by
       obtain⟨j,hj,rfl⟩:=nQ.1 hx;exact GK.out j _ (kf j (by rw[yG.out.1];exact hj)) (aQ hj))
      have yc:=aaK B0 B2.out;refine (L3 _ l (by rw[oJ.out];omega) _ ((HD.out.keep mV yc.out).more rx (by omega))).mono ?_;rintro e w13 ⟨v13,rfl,JX,I8⟩;obtain⟨A13,c13,rfl⟩:=cD.form JX;have MO:=aaK yc I8;have SX:(Np.bZ (l.map (·.zone.apex))).length<=500:=by
       have:=Np.tL (l.map (·.zone.apex))
       rw[List.length_map,oJ.out] at this;omega
      obtain⟨m13,JO⟩:=abY ((Np.bZ (l.map (·.zone.apex))).length);rw[JO] at SX |-;have d13:decide ((m13:Int)<=500)=true:=adQ;clear JX I8 JO;go_wp2_with fail;go_ret;exact⟨aj (by rw[<-HR.out];exact (Np.dz ⟨⟨⟨MW.out,Np.iz.1 uz.out⟩,Gz.out⟩,no.out⟩).symm),MO.out⟩
     ·obtain⟨xj,EH,sV⟩:=yG.out.2 j _ hj;have Z2:g.length=xj.2.1.length:=sV.length_eq;have SY:=(Gk.out xj (gQ EH)).1;have rT:=jq sV;have yJ:=jq EH;have HJ:=jq hj;have CA:=jq Eo;have Y1:=jq AG;have Y0:=jq Ef;have Zn:I<w11.heap.size:=by rw[AG.size];exact DC
      have MN:Hid (Below X1 wm w11):=jq (B2.out.trans (AG.below (by omega)));refine (LO _ SO (enters_of func122 (by kernel_rfl) rfl) (X1+1) v g w11 (CA.out.mapX.row _ (gQ (by exact HJ.out))) (by omega)).mono ?_;rintro e w12 ⟨rfl,ys,hp,pE,Aw,sH⟩;have OY:Hid (RangeX (X1+1) X1 I (xs'.set j (p,ys,v)) (seen.push j) w12):=jq (CA.out.changed (Nat.lt_succ_self _) HJ.out sH Aw);have jS:Hid (Np.CY ys↔xj.2.1.Pairwise λa b=>¬ Np.kB a b):=jq (Np.WJ (hp.trans rT.out) pE (Gk.out xj (gQ yJ.out)).2);have GJ:Hid (ys.Perm xj.2.1):=jq (hp.trans rT.out);have fl:∀ q,v.ownBlock=some q->X1+1<=q:=λq hq=>(World.ownsRow.lt (CA.out.mapX.row _ (gQ (by exact HJ.out))) q hq).1;have p9:Hid (Below X1 wm w12):=jq (MN.out.grown sH (by omega) (λq hq=>by have:=fl q hq;omega));have Ts:w12.rangeLeft X1 I<wr.rangeLeft X1 I:=by
       have e:w12.rangeLeft X1 I=w11.rangeLeft X1 I:=Lh (sH.block X1 (by omega) (λe=>by have:=fl _ e.symm;omega)) (sH.block I (by omega) (λe=>by have:=Eo.row _ (gQ hj);exact this e.symm));rw[e];exact Ef
      have afJ:I<w12.heap.size:=by have:=sH.size;omega
      have GQ:Hid (SlR cm 2 w12 w12.heap.size v ys):=jq (av.slr Aw (by have:=hp.length_eq;omega));have NT:Hid (¬ Np.CY ys->r=false):=jq (λh=>by
       rw[<-HR.out];refine Np.bP λq=>h (jS.out.2 ?_);exact (ll.out.1 q.2) xj (gQ yJ.out))
      have TQ:ys.length<=500:=by rw[GJ.out.length_eq];exact SY
      obtain⟨Av,cv,rfl⟩:=av.form Aw;obtain⟨wo,rfl⟩:=acQ wr;clear hp pE Aw sH Eo AG Ef hen hj EH sV fl k1;obtain⟨ny,mC⟩:=abY ys.length;rw[mC] at TQ GQ;rw[mC];have Gy:=jq mC;clear mC;go_wp2_with fail;go_loopw [9] (λi wi=>∃ q:Nat,1<=q/\(q<=ny\/q=1)/\i = .int .i64 q/\Hid (Below w12.heap.size w12 wi)/\Hid (∀ t (h:t+1<ys.length),t+1<q->ys[t].til<=ys[t+1].frm)) (λi _=>ny - (intOf i).toNat)
      case atStart=>exact⟨1,bQ _,.inr rfl,rfl,jq (vQ _ _),jq (λt h h2=>by omega)⟩
      case round=>
       obtain⟨q,vS,ji,rfl,oy,HQ⟩:=hrel;have T7:=oy.out.size;by_cases S7:q<ny
       ·obtain⟨m,hm⟩:∃ m,q=m+1:=⟨q - 1,by omega⟩;have mC:=Gy.out;have Eg:m<ys.length:=by omega
        have J2:q<ys.length:=by omega
        obtain⟨a,ha⟩:∃ a,ys[m]?=some a:=⟨_,aQ Eg⟩;obtain⟨b,hb⟩:∃ b,ys[q]?=some b:=⟨_,aQ J2⟩;have yn:=GQ.out.keep cI oy.out;obtain⟨bb,oo,rfl⟩:=xE (k:=m) yn Eg;obtain⟨bC,DT⟩:=tE yn ha;obtain⟨_,DU⟩:=tE yn hb;have a0:=DT.c0;have a1:=DT.c1;have b0:=DU.c0;have b1:=DU.c1;have aF:IntKind.i64.wrap ((q:Int) - 1)=(m:Int):=by rw[show (q:Int) - 1=m by omega];simp[IntKind.wrap,IntKind.bits,IntKind.signed];omega
        have i1:(0:Int)<=(q:Int):=by omega
        have i2:(q:Int)<(ny:Int):=by omega
        have i3:(0:Int)<=(m:Int):=by omega
        have i4:(m:Int)<(ny:Int):=by omega
        have i5:m<ny:=by omega
        have rI:Hid (b.frm<a.til->r=false):=jq (λaa=>NT.out λjh=>by
         have h1:=jh m (by omega);obtain⟨e1,e2⟩:=cQ.1 ha;obtain⟨e3,e4⟩:=cQ.1 hb;subst hm;rw[e2,e4] at h1;omega)
        have F3:Hid (¬ b.frm<a.til->∀ t (h:t+1<ys.length),t+1<q+1->ys[t].til<=ys[t+1].frm):=jq (λpi t h h2=>by
         by_cases e:t=m
         ·subst e;obtain⟨e1,e2⟩:=cQ.1 ha;obtain⟨e3,e4⟩:=cQ.1 hb;subst hm;rw[e2,e4];omega
         ·exact HQ.out t h (by omega))
        obtain⟨af,au⟩:=a;obtain⟨bf,bu⟩:=b;dsimp only at a0 a1 b0 b1 rI F3;clear ha hb yn DT DU hm mC Eg J2 bC;by_cases nF:bf<au
        ·have dd:decide (bf<au)=true:=uQ nF;have HX:=jq (rI.out nF);have yc:=jq (B0.out.trans ((p9.out.trans (oy.out.acJ)).acJ));clear nF;go_wp2_with fail;go_quiet (fail);go_wp2_with fail;go_ret;exact⟨aj HX.out.symm,below_drewN yc.out _⟩
        ·have dd:decide (bf<au)=false:=tQ nF;have HX:=jq (F3.out nF);clear nF;go_wp2_with fail;go_quiet (fail);go_wp2_with fail;go_roundw
         case rel=>exact⟨q+1,by omega,by omega,by go_num,jq (below_drewN oy.out _),HX⟩
         case measure=>simp[intOf] <;> omega
       ·have no:Hid (xj.2.1.Pairwise λa b=>¬ Np.kB a b):=jq (jS.out.1 λt h=>HQ.out t h (by have:=Gy.out;omega));go_wp2_with fail;go_roundw
        case rel=>
         refine⟨seen.push j,_,by omega,aaK p9 oy.out,jq (OY.out.keep oy.out),jq ⟨by rw[List.length_set];exact yG.out.1,λj' x' hx'=>?_⟩,jq λj' x hs hx=>?_⟩
         ·rw[List.getElem?_set] at hx';split at hx'
          ·rename_i e;subst e;rw[Qb (cQ.1 HJ.out).1] at hx'
           cases hx'
           exact⟨xj,yJ.out,GJ.out⟩
          ·exact yG.out.2 j' x' hx'
         ·rw[Array.contains_push,Bool.or_eq_true] at hs;rcases hs with hs | hs
          ·exact GK.out j' x hs hx
          ·have e:j'=j:=by simpa using hs
           subst e
           have:=yJ.out
           rw[this] at hx
           cases hx
           exact no.out
        case measure=>
         have e:=Lh (w:=w12) (w':=wr) (r:=X1) (I:=I) (oy.out.block _ (by omega)) (oy.out.block _ (by omega));rw[e];exact Ts
end
section
open Go.RowKit

end
section
open Go.RowKit Go.Sort Go.Shelf
theorem Rn{W w':World}(h:D.Below W.heap.size W w'):∃ q os,w'=grow (W.drewN q) os:=by
 refine⟨w'.drawn - W.drawn,w'.heap.extract W.heap.size w'.heap.size,?_⟩;have hh:w'.heap=W.heap++w'.heap.extract W.heap.size w'.heap.size:=by
  apply Array.ext_getElem?;intro j;rcases Nat.lt_or_ge j W.heap.size with h1 | h1
  ·rw[Array.getElem?_append_left h1];exact h.block j h1
  ·rw[Array.getElem?_append_right h1,Array.getElem?_extract];split
   ·congr 1;omega
   ·rw[Array.getElem?_eq_none (by omega)]
 have hd:w'.drawn=W.drawn+(w'.drawn - W.drawn):=by have:=h.drawn;omega
 have h1:=h.os;have h2:=h.tape;have h3:=h.output
 cases w'
 cases W
 simp only[grow,World.drewN,World.mk.injEq] at *;exact⟨hh,h2,hd,h1,h3⟩
abbrev VN:={ x:List UInt8 // Np.aG x=true }
instance:Inhabited VN:=⟨⟨[46],by decide⟩⟩
def mu(x:VN):Value:=aM x.1
def iK(x y:VN):Int:=Np.dt x.1 y.1
theorem Xz:SWO (ltOf iK) where
 irrefl x:=by unfold ltOf iK;rw[Np.kp.self];rfl
 trans x y z h1 h2:=by
  unfold ltOf iK at *;simp only[Qa] at *;exact Np.kp.trans _ _ _ h1 h2
 ntrans x y z h1 h2:=by
  unfold ltOf iK at *;simp only[decide_eq_false_iff_not] at *;intro h3;rcases Int.lt_trichotomy (Np.dt x.1 y.1) 0 with h4 | h4 | h4
  ·exact h1 h4
  ·have:=Np.kp.zero _ _ h4;rw[this] at h3;exact h2 h3
  ·have:=Np.kp.trans _ _ _ (Np.kp.anti' _ _ h4) h3
   exact h2 this
theorem XH(x y:VN)(h1:ltOf iK x y=false)(h2:ltOf iK y x=false):x=y:=by
 unfold ltOf iK at *;simp only[decide_eq_false_iff_not] at *;apply Subtype.ext;rcases Int.lt_trichotomy (Np.dt x.1 y.1) 0 with h4 | h4 | h4
 ·exact absurd h4 h1
 ·exact Np.kp.zero _ _ h4
 ·exact absurd (Np.kp.anti' _ _ h4) h2
theorem LS{x:List UInt8}(h:Np.aG x=true):(⟨x.toArray⟩:ByteArray).size<=140737488355328:=by
 have:=Ym h
 have e:(⟨x.toArray⟩:ByteArray).size=x.length:=by rw[<-bG]
 omega
theorem YT(x y:VN)(w:World) :
 Calls prog 136 #[mu x,mu y] w λe w'=>e = .returned (.int .i64 (iK x y))/\D.Below w.heap.size w w':=by
 have hc:=D.compare_any ⟨x.1.toArray⟩ ⟨y.1.toArray⟩ (LS x.2) (LS y.2) w;have e1:(⟨x.1.toArray⟩:ByteArray).data.toList=x.1:=rfl;have e2:(⟨y.1.toArray⟩:ByteArray).data.toList=y.1:=rfl;have e3:D.cmpVal x.1 y.1 = .tuple #[.int .i64 (iK x y),.int .i64 0]:=by unfold D.cmpVal;rw[x.2,y.2];rfl
 rw[e1,e2,e3] at hc;have HC:=jq hc;clear hc e1 e2 e3;unfold mu aM;generalize iK x y=z at HC |-;go_enter func136,ntmps136;go_wp2_with (go_at_call 137;refine HC.out.mono ?_;rintro e w2 ⟨rfl,ab⟩;have ai:=jq ab;clear ab);go_ret;exact⟨rfl,ai.out⟩
theorem Sp(enc:VN->Value){w:World}{g n:Nat}{os:Array Obj}{cur:Array Value}{e:TypeId}{fr:Nat×Nat}(d:Array VN)(hb:w.heap[g]?=some (.cells cur e fr)) :
 (sortWorld enc w g 0 n d os).heap[g]?=some (.cells (putCells enc 0 d cur) e fr):=by
 have hl:g<w.heap.size:=(eQ.1 hb).1;unfold sortWorld;rw[heap_grow_old _ _ (by simpa [putRow,mapBlock,Sort.ahead] using hl)];simp[putRow,mapBlock,Sort.ahead,Array.getElem?_modify,hb,onCells]
theorem Ro(enc:VN->Value){w:World}{g n:Nat}{os:Array Obj}(d:Array VN):w.grownBy (sortWorld enc w g 0 n d os) (some g):=by
 unfold sortWorld;refine⟨rfl,rfl,rfl,by simp,λq hq hne=>?_⟩;rw[heap_grow_old _ _ (by simpa using hq)]
 have:g≠q:=λe=>hne (by rw[e])
 simp[putRow,mapBlock,Sort.ahead,Array.getElem?_modify,this]
theorem Xi(base:Nat)(v:Value)(xs:List (List UInt8))(w:World)(hown:cD base w v xs)(hv:∀ x∈xs,Np.aG x=true)(hl:xs.length<=100000) :
 Calls prog 135 #[v,.func (.func 136) #[] #[]] w λe w'=>e = .returned (.tuple #[])/\cD base w' v (Np.pR xs)/\w.grownBy w' v.ownBlock:=by
 obtain⟨ys,TS⟩:∃ ys:List VN,ys.map (·.1)=xs:=⟨xs.pmap (λx h=>⟨x,h⟩) hv,by rw[List.map_pmap];simp⟩;subst TS;have hs:Np.pR (ys.map (·.1))=(ys.mergeSort λx y=>!(ltOf iK) y x).map (·.1):=by
  unfold Np.pR;exact (List.map_mergeSort (r:=λx y:VN=>!(ltOf iK) y x) (s:=λa b=>!decide (Np.dt b a<0)) (f:=λx:VN=>x.1) (l:=ys) (λa _ b _=>rfl)).symm
 have im:w.ownsRow base 9 1 v (ys.map (·.1)).length ((ys.map (·.1)).map aM):=hown;rw[List.length_map] at im hl;rcases im.2 with ⟨rfl,h0⟩ | ⟨g,cap,cur,rfl,bL,hb,h1,h2,h3,h4⟩
 ·have:ys = []:=rQ h0
  subst this;refine (Tryz.slices_SortFunc_none (α:=VN) none 0 _ w).mono ?_;intro e w' hh;obtain⟨rfl,rfl⟩:=hh;exact⟨rfl,by rw[hs];simpa using hown,⟨rfl,rfl,rfl,bQ _,λ_ _ _=>rfl⟩⟩
 have eg:∀ args w,(callFunc 136 args).run prog w = .ok (.enter 136 args) w:=enters_of func136 (by kernel_rfl) rfl;have hH:Holds mu w g 0 ys.toArray:=λj hj=>by
  have hj':j<ys.length:=by simpa using hj
  refine⟨?_,by simp[World.frozen?,hb]⟩
  have:=im.cellAt j (by omega)
  rw[Nat.zero_add,this,List.getElem?_map,List.getElem?_map,aQ hj',getElem!_pos ys.toArray j hj];simp[mu]
 have vq:CmpLays1 prog 136 #[] mu iK g 0 ys.toArray.size w:=λm os dk _ x y=>(YT x y _).mono λe w' ⟨he,hw⟩=>⟨he,Rn hw⟩;have zV:=Tryz.slices_SortFunc_total mu (λ_=>rfl) iK Xz 136 #[] g 0 cap ys.toArray w eg vq hH (eQ.1 hb).1 (by simp;omega) XH;have hlen:(ys.mergeSort λx y=>!(ltOf iK) y x).length=ys.length:=List.length_mergeSort _;rw[List.size_toArray] at zV;refine zV.mono λe w' ⟨he,n,os,hw⟩=>⟨he,?_,?_⟩
 ·subst hw;rw[hs];unfold cD;rw[List.length_map,hlen];refine⟨by simp,.inr ⟨g,cap,_,rfl,bL,Sp mu _ hb,h1,h2,by simp[putCells,h3],?_⟩⟩;apply List.ext_getElem?;intro j;by_cases hj:j<ys.length
  ·have vD:j<cur.size:=by omega
   have Af:j<(ys.mergeSort λx y=>!(ltOf iK) y x).length:=by omega
   rw[List.getElem?_take_of_lt (by omega),Array.getElem?_toList,List.getElem?_map,List.getElem?_map,aQ Af];simp[putCells,vD,hj,mu]
  ·rw[List.getElem?_take_eq_none (by omega),List.getElem?_eq_none (by simp;omega)]
 ·subst hw;exact Ro mu _
def oS(W:World)(B:Nat)(e:List Value)(h:Np.Hist):Prop:=∃ (hv cv:Value) (s:ByteArray) (dv cW:Value),e = [hv,cv,.string s,.int .i64 h.anchor.type,.int .i64 h.anchor.life,dv,cW,.int .i64 h.drift,.int .i64 h.stop]/\s.data.toList=h.anchor.name/\s.size<=140737488355328/\
 SlR lA 3 W B hv h.hosts/\SlR jx 5 W B cv h.copies/\SlR bI 3 W B dv h.anchor.data/\SlR eK 1 W B cW h.hints
theorem Ln:cj oS:=λ_ _ _ _ _ ⟨hv,cv,s,dv,cW,h0,h1,h2,h3,h4,h5,h6⟩ hb=>⟨hv,cv,s,dv,cW,h0,h1,h2,h3.keep ry hb,h4.keep mV hb,h5.keep bq hb,h6.keep g9 hb⟩
theorem Lo:cB oS:=λ_ _ _ _ _ ⟨hv,cv,s,dv,cW,h0,h1,h2,h3,h4,h5,h6⟩ hb=>⟨hv,cv,s,dv,cW,h0,h1,h2,h3.more xw hb,h4.more rx hb,h5.more bD hb,h6.more l4 hb⟩
def Np.xP(h:Np.Hist):Prop:=h.copies.length<=500/\∀ c∈h.copies,c.zone.sets.length<=20000
theorem PJ{h:Np.Hist}(v:Np.VHist h):∀ x∈Np.bZ (h.copies.map (·.zone.apex)),Np.aG x=true:=λx hx=>by
 obtain⟨c,hc,rfl⟩:=List.mem_map.1 (Np.xi.1 hx);have h1:=(v.each c hc).zone.right;unfold Np.g8 at h1;simp only[Bool.and_eq_true] at h1;exact h1.1.1
theorem YU(e:List Value)(h:Np.Hist)(hf:Np.xP h)(w:World)(hR:dS w w.heap.size)(hh:oS w w.heap.size e h) :
 Calls prog 60 #[.agg e.toArray] w λe w'=>((Np.VHist h/\∃ v',e = .returned (.tuple #[v',.int .i64 0])/\cD w.heap.size w' v' (Np.apexes h.copies))\/(¬ Np.VHist h/\e = .returned (.tuple #[.slice none 0 0,.int .i64 1])))/\Below w.heap.size w w':=by
 obtain⟨hv,cv,s,dv,cW,rfl,h1,h2,h3,h4,h5,h6⟩:=hh;obtain⟨hosts,copies,⟨name,ty,life,data⟩,hints,drift,stop⟩:=h;dsimp only at h1 h3 h4 h5 h6;subst h1;have H3:=jq h3;have H4:=jq h4;have H5:=jq h5;have H6:=jq h6;have gw:=jq hR;have qa:=jq hf;obtain⟨A1,c1,rfl,_,_⟩:=ar h3;obtain⟨A2,c2,rfl,_,_⟩:=ar h4;obtain⟨A3,c3,rfl,_,_⟩:=ar h5;obtain⟨A4,c4,rfl,_,_⟩:=ar h6;clear h3 h4 h5 h6 hR hf;obtain⟨r,hr⟩:=abY (Np.yes (Np.VHist ⟨hosts,copies,⟨s.data.toList,ty,life,data⟩,hints,drift,stop⟩));have qr:=jq hr;obtain⟨n1,co⟩:=abY hosts.length;obtain⟨n2,dj⟩:=abY copies.length;obtain⟨n3,fL⟩:=abY data.length;obtain⟨n4,ga⟩:=abY hints.length;rw[co] at H3 |-;rw[dj] at H4 |-;rw[fL] at H5 |-;rw[ga] at H6 |-;clear hr co dj fL ga;obtain⟨X,hX⟩:=abY w.heap.size;have iF:=jq hX;obtain⟨W1,aw⟩:=abY (w.alloc (.cells #[.slice A1 n1 c1,.slice A2 n2 c2,.string s,.int .i64 ty,.int .i64 life,.slice A3 n3 c3,.slice A4 n4 c4,.int .i64 drift,.int .i64 stop] 29));have aV:Below w.heap.size w W1:=by rw[<-aw];exact (vQ _ _).alloc (bQ _) _
 have xa:W1.heap.size=w.heap.size+1:=by rw[<-aw];simp
 have k0:W1.cell? ⟨X,0,none⟩=some (.slice A1 n1 c1):=by rw[<-aw,<-hX];simp[go_sem]
 have k1:W1.cell? ⟨X,1,none⟩=some (.slice A2 n2 c2):=by rw[<-aw,<-hX];simp[go_sem]
 have k2:W1.cell? ⟨X,2,none⟩=some (.string s):=by rw[<-aw,<-hX];simp[go_sem]
 have k3:W1.cell? ⟨X,3,none⟩=some (.int .i64 ty):=by rw[<-aw,<-hX];simp[go_sem]
 have k4:W1.cell? ⟨X,4,none⟩=some (.int .i64 life):=by rw[<-aw,<-hX];simp[go_sem]
 have k5:W1.cell? ⟨X,5,none⟩=some (.slice A3 n3 c3):=by rw[<-aw,<-hX];simp[go_sem]
 have k6:W1.cell? ⟨X,6,none⟩=some (.slice A4 n4 c4):=by rw[<-aw,<-hX];simp[go_sem]
 have k7:W1.cell? ⟨X,7,none⟩=some (.int .i64 drift):=by rw[<-aw,<-hX];simp[go_sem]
 have k8:W1.cell? ⟨X,8,none⟩=some (.int .i64 stop):=by rw[<-aw,<-hX];simp[go_sem]
 rw[hX] at aV xa H3 H4 H5 H6 gw |-;have bg:=jq aV;clear aV;go_enter func60,ntmps60;go_wp2_with fail;refine (JD _ hosts _ copies s h2 ty life _ data _ hints drift stop qa.out.1 qa.out.2 _ ((gw.out.keep bg.out).more (by omega)) ((H3.out.keep ry bg.out).more xw (by omega)) ((H4.out.keep mV bg.out).more rx (by omega)) ((H5.out.keep bq bg.out).more bD (by omega)) ((H6.out.keep g9 bg.out).more l4 (by omega))).mono ?_;rintro e w2 ⟨rfl,ab⟩;have aC:=ab.size;have m1:w2.cell? ⟨X,1,none⟩=some (.slice A2 n2 c2):=aaJ ab k1;have ai:=aaK bg ab;clear ab aw k0 k1 k2 k3 k4 k5 k6 k7 k8 hX;rw[qr.out]
 cases r with
 | false=>
  have HN:Hid (¬ Np.VHist ⟨hosts,copies,⟨s.data.toList,ty,life,data⟩,hints,drift,stop⟩):=jq (λh=>by have:=Np.dz h;rw[qr.out] at this;cases this);go_wp2_with fail;go_ret2;exact⟨.inr ⟨HN.out,rfl⟩,ai.out⟩
 | true=>
  have HV:Hid (Np.VHist ⟨hosts,copies,⟨s.data.toList,ty,life,data⟩,hints,drift,stop⟩):=jq (Np.iz.1 qr.out);have oI:Hid (copies.length<=500):=jq qa.out.1;go_wp2_with fail;refine (L3 _ copies (by have:=oI.out;omega) _ ((H4.out.keep mV ai.out).more rx (by omega))).mono ?_;rintro e w3 ⟨v3,rfl,gb,ae⟩;have gh:=ae.size;have fp:=jq gb;have ay:=aaK ai ae;clear gb ae;go_wp2_with fail;refine (Xi w2.heap.size _ _ _ fp.out (PJ HV.out) (by have:=Np.tL (copies.map (·.zone.apex));rw[List.length_map] at this;have:=oI.out;omega)).mono ?_;rintro e w4 ⟨rfl,iR,vw⟩;have H4':=jq (And.intro (cD.weak iR (show X<=w2.heap.size by omega)) (ay.out.grown vw (by omega) (λq hq=>by have:=(World.ownsRow.lt fp.out q hq).1;omega)));clear iR vw;go_wp2_with fail;go_ret2;exact⟨.inl ⟨HV.out,_,rfl,H4'.out.1⟩,H4'.out.2⟩
end
section
open Go.RowKit
theorem PW{B:Nat}{M:Nat->Prop}{w:World}(hM:∀ k,M k->B<=k):Below B w (aR w M):=
 ⟨rfl,rfl,rfl,by rw[eW];exact bQ _,λk hk=>iU (λh=>by have:=hM k h;omega)⟩
theorem SlR.around{α:Type}{R:agJ α}{sz B:Nat}{w:World}{v:Value}{xs:List α}{M:Nat->Prop}(h:SlR R sz w B v xs)(hk:cj R)(hm:cB R)(hM:∀ k,M k->B<=k)(hB:B<=w.heap.size):SlR R sz (aR w M) w.heap.size v xs:=
 (h.keep hk (PW hM)).more hm hB
theorem bh.keep{α:Type}{R:agJ α}{sz:Nat}{e:TypeId}{base:Nat}{M:Nat->Prop}{w w':World}{v:Value}{xs:List α}(h:bh R sz e base M w v xs)(hk:cj R)(hs:ef R)(hm:cB R)(hb:Below w.heap.size w w'):bh R sz e base M w' v xs:=by
 refine h.leaves hk hs hm (Leaves'.of_below hb) (λg hg=>?_);obtain⟨rows,h1,h2,h3,h4⟩:=h;exact⟨hb.block g (h2.lt g hg).2,h3 g hg⟩
theorem bh.lt{α:Type}{R:agJ α}{sz:Nat}{e:TypeId}{base:Nat}{M:Nat->Prop}{w:World}{v:Value}{xs:List α}(h:bh R sz e base M w v xs):∀ g,v.ownBlock=some g->base<=g/\g<w.heap.size:=by
 obtain⟨rows,h1,h2,h3,h4⟩:=h;exact h2.lt
theorem bh.formN{α:Type}{R:agJ α}{sz:Nat}{e:TypeId}{base:Nat}{M:Nat->Prop}{w:World}{v:Value}{xs:List α}{n:Nat}(h:bh R sz e base M w v xs)(hn:xs.length=n):∃ A c,v = .slice A n c:=by
 subst hn;exact h.form
theorem bh.slr_sans{α:Type}{R:agJ α}{sz:Nat}{e:TypeId}{base:Nat}{M M':Nat->Prop}{w:World}{v:Value}{xs:List α}(hs:ef R)(hm:cB R)(h:bh R sz e base M w v xs)(hM:∀ k,M' k->M k/\v.ownBlock≠some k)(hl:xs.length<=140737488355328):SlR R sz (aR w M') w.heap.size v xs:=by
 obtain⟨rows,h1,h2,h3,h4⟩:=h;have h5:aO R sz e base w.heap.size (aR w M') v xs:=⟨rows,h1,bY h2 (λg hg=>iU (λhm'=>(hM g hm').2 hg)),λi r x hr hx=>⟨(h4 i r x hr hx).1,hs _ _ _ _ _ _ (λk hk=>(hM k hk).1) (h4 i r x hr hx).2⟩⟩;have h6:=h5.slr hm (by rw[eW];exact bQ _) hl;rwa [eW] at h6
theorem Leaves'.slr{α:Type}{R:agJ α}{sz:Nat}(hk:cj R)(hs:ef R)(hm:cB R){M M':Nat->Prop}{w w':World}(h:Leaves' M w w' M'){v:Value}{xs:List α}(hr:SlR R sz (aR w M) w.heap.size v xs):SlR R sz (aR w' M') w'.heap.size v xs:=by
 have hb:Below w.heap.size (aR w M) (aR w' λk=>M k\/M' k):=by
  refine⟨h.os,h.tape,h.output,by rw[eW,eW];exact h.size,λk hk=>?_⟩;by_cases hm:M k
  ·rw[rB hm,rB (Or.inl hm)];have h1:k<w'.heap.size:=lQ hk h.size;simp[hk,h1]
  ·have hk':=h.keep k hk hm;rw[iU hm,iU (λe=>e.elim hm hk'.1)];exact hk'.2
 exact ((hr.keep hk hb).more hm h.size).sans hs (λ_ e=>.inr e)
def Fx{α:Type}(R:agJ α)(B n:Nat)(w:World)(e:List Value)(x:α):Prop:=∀ M:Nat->Prop,(∀ k,M k->B<=k/\k<n)->R (aR w M) w.heap.size e x
def bw{α:Type}(R:agJ α)(sz B n:Nat)(w:World)(v:Value)(xs:List α):Prop:=∀ M:Nat->Prop,(∀ k,M k->B<=k/\k<n)->SlR R sz (aR w M) w.heap.size v xs
theorem Fx.all{α:Type}{R:agJ α}{B n:Nat}{w:World}{e:List Value}{x:α}(h:Fx R B n w e x)(hs:ef R):R w w.heap.size e x:=hs.all (h (λ_=>False) (λ_ e=>e.elim))
theorem bw.all{α:Type}{R:agJ α}{sz B n:Nat}{w:World}{v:Value}{xs:List α}(h:bw R sz B n w v xs)(hs:ef R):SlR R sz w w.heap.size v xs:=(h (λ_=>False) (λ_ e=>e.elim)).all hs
theorem Bj:ef jx:=λ_ _ _ _ _ _ hM ⟨s,v,h1,h2,h3,h5⟩=>⟨s,v,h1,h2,h3.sans WN hM,h5⟩

end
end Go.Proofs.YtfnopgdcaanaiaaGreatDoor
