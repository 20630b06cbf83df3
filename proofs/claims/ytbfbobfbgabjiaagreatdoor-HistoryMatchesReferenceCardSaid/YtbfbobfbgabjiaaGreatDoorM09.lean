/- Parts of the proof. No condition. -/
import Derived.Test.YtbfbobfbgabjiaaGreatDoorM08
set_option linter.all false
set_option maxRecDepth 100000
set_option maxHeartbeats 8000000
namespace Go.Proofs.YtbfbobfbgabjiaaGreatDoor
open Go.Proofs.Tryz
section
open Go.RowKit
theorem U8{z:Np.Zone}(cu:z.sets.length<=20000):Np.VZone z↔(((((Np.fm z=true/\Np.ApexH z.apex z.sets)/\Np.AM z.sets)/\Np.qD z.sets (Np.ef z))/\Np.AO z.sets (Np.ef z))/\∀ x∈z.sets,Np.gV z.apex x.sigs):=by
 constructor
 ·intro h;refine⟨⟨⟨⟨⟨h.right,h.start,h.server,h.fits⟩,λk x hx ht=>⟨λp h0 hp he=>?_,λn hn he=>?_⟩⟩,h.cuts⟩,h.sigs⟩,h.form⟩
  ·obtain⟨hk,rfl⟩:=cQ.1 hx;obtain⟨bV,rfl⟩:=cQ.1 hp;obtain⟨m,rfl⟩:∃ m,k=m+1:=⟨k - 1,by omega⟩;exact h.aliasBefore m hk ht he
  ·obtain⟨hk,rfl⟩:=cQ.1 hx;obtain⟨bV,rfl⟩:=cQ.1 hn;exact h.aliasBehind k bV ht he
 ·rintro⟨⟨⟨⟨⟨h1,h2⟩,h3⟩,h4⟩,h5⟩,h6⟩;refine⟨h1,cu,h2.start,h2.server,h2.fits,λi hi ht he=>?_,λi hi ht he=>?_,h4,h5,h6⟩
  ·exact (h3 (i+1) _ (aQ hi) ht).1 _ (by omega) (aQ (by omega)) he
  ·exact (h3 i _ (aQ (by omega)) ht).2 _ (aQ hi) he
theorem rJ{P:Prop}(h:Np.yes P=false):¬ P:=λhp=>by rw[Np.bO hp] at h; cases h
theorem LW(a:ByteArray)(ha:a.size<=140737488355328)(v:Value)(l:List Np.Signed)(cu:l.length<=20000)(w:World)(hR:iW w w.heap.size)(hd:SlR bK 5 w w.heap.size v l) :
 Calls prog 55 #[.agg #[.string a,v]] w λe w'=>e = .returned (.bool (Np.yes (Np.VZone ⟨a.data.toList,l⟩)))/\Below w.heap.size w w':=by
 obtain⟨r,hr⟩:∃ r,Np.yes (Np.VZone ⟨a.data.toList,l⟩)=r:=⟨_,rfl⟩;rw[hr];have HR:Hid (Np.yes (((((Np.fm ⟨a.data.toList,l⟩=true/\Np.ApexH a.data.toList l)/\Np.AM l)/\Np.qD l (Np.ef ⟨a.data.toList,l⟩))/\Np.AO l (Np.ef ⟨a.data.toList,l⟩))/\∀ x∈l,Np.gV a.data.toList x.sigs)=r):=jq (by
  rw[<-hr]; exact (Np.tw (U8 (z:=⟨a.data.toList,l⟩) cu)).symm)
 have HD:=jq hd;have gN:=jq hR;obtain⟨A,c,rfl,bC,bH⟩:=ag hd;clear hr hd hR;have HW:Hid (∀ o o',Below w.heap.size w ((w.alloc o).alloc o')):=jq (λo o'=>((vQ _ w).alloc (bQ _) _).alloc (by simp) _);go_enter func55,ntmps55;go_wp2_with fail;obtain⟨w1,al⟩:∃ w1,(w.alloc (.cells #[.string a,.slice A l.length c] 56)).alloc (.cells #[.string a,.slice A l.length c] 161)=w1:=⟨_,rfl⟩;have c0:w1.cell? ⟨w.heap.size+1,0,none⟩=some (.string a):=by rw[<-al]; simp[go_sem]
 have c1:w1.cell? ⟨w.heap.size+1,1,none⟩=some (.slice A l.length c):=by rw[<-al]; simp[go_sem]
 have bI:w1.heap.size=w.heap.size+2:=by rw[<-al]; simp
 have aF:Hid (Below w.heap.size w w1):=jq (by rw[<-al]; exact HW.out _ _);rw[al];clear al;refine (TX a ha _ l cu _ ((gN.out.keep aF.out).more (by omega)) (HD.out.later aV bR aF.out)).mono ?_;rintro e w2 ⟨rfl,aa⟩;have aN:=aa.size;have ak:=jq (aF.out.trans (aa.mono (by omega)));have d0:w2.cell? ⟨w.heap.size+1,0,none⟩=some (.string a):=(aa.cell (by dsimp only; omega)).trans c0;have d1:w2.cell? ⟨w.heap.size+1,1,none⟩=some (.slice A l.length c):=(aa.cell (by dsimp only; omega)).trans c1;clear aa c0 c1
 cases fY:Np.fm ⟨a.data.toList,l⟩ with
 | false=>
  have HX:Hid (r=false):=jq (by rw[<-HR.out]; exact Np.aP λh=>by rw[fY] at h; cases h.1.1.1.1.1);clear fY;go_wp2_with fail;go_ret;exact⟨aj HX.out.symm,ak.out⟩
 | true=>
  have iJ:=jq fY;have ho:=Np.VZone.inOrder fY;have HS:=jq (Xl ho);have qN:=fY;unfold Np.fm at qN;simp only[Bool.and_eq_true] at qN;have NA:=jq qN.1.1;have HV:Hid (∀ x∈l,Np.aG x.set.name=true):=jq (λx hx=>Dp (Np.C9 qN.2 x hx));clear fY qN ho;go_wp2_with fail;refine (Ul a ha NA.out _ l cu HV.out HS.out _ (HD.out.later aV bR ak.out)).mono ?_;rintro e w3 ⟨rfl,ah⟩;have dP:=ah.size;have av:=jq (ak.out.trans (ah.mono (by omega)));replace d0:w3.cell? ⟨w.heap.size+1,0,none⟩=some (.string a):=(ah.cell (by dsimp only; omega)).trans d0;replace d1:w3.cell? ⟨w.heap.size+1,1,none⟩=some (.slice A l.length c):=(ah.cell (by dsimp only; omega)).trans d1;clear ah
  cases oV:Np.yes (Np.ApexH a.data.toList l) with
  | false=>
   have HX:Hid (r=false):=jq (by rw[<-HR.out]; exact Np.aP λh=>rJ oV h.1.1.1.1.2);clear oV;go_wp2_with fail;go_ret;exact⟨aj HX.out.symm,av.out⟩
  | true=>
   have pt:=jq (Np.eE.1 oV);clear oV;go_wp2_with fail;refine (ZA a _ l cu HV.out HS.out _ (HD.out.later aV bR av.out)).mono ?_;rintro e w4 ⟨⟨bv,rfl,iT⟩,am⟩;have ga:=am.size;have bD:=jq (av.out.trans (am.mono (by omega)));obtain⟨A2,c2,rfl,eB,dz⟩:=ag iT;have cD:(Np.ef ⟨a.data.toList,l⟩).length=l.length:=Np.tv _;rw[cD] at eB dz iT |-;clear cD;have HBV:=jq iT;clear am iT d0 d1;go_wp2_with fail;obtain⟨w5,aX⟩:∃ w5,w4.alloc (.cells #[.string a,.slice A l.length c,.slice A2 l.length c2] 163)=w5:=⟨_,rfl⟩;have g0:w5.cell? ⟨w4.heap.size,0,none⟩=some (.string a):=by rw[<-aX]; simp[go_sem]
   have g1:w5.cell? ⟨w4.heap.size,1,none⟩=some (.slice A l.length c):=by rw[<-aX]; simp[go_sem]
   have g2:w5.cell? ⟨w4.heap.size,2,none⟩=some (.slice A2 l.length c2):=by rw[<-aX]; simp[go_sem]
   have kF:w5.heap.size=w4.heap.size+1:=by rw[<-aX]; simp
   have zH:Hid (Below w4.heap.size w4 w5):=jq (by rw[<-aX]; exact (vQ _ _).alloc (bQ _) _);have ca:Hid (Below w.heap.size w w5):=jq (bD.out.trans (zH.out.mono (by omega)));have yE:Hid (∀ wx,Below w.heap.size w wx->w.heap.size<=wx.heap.size->SlR bK 5 wx wx.heap.size (.slice A l.length c) l):=jq (λwx hb _=>HD.out.later aV bR hb);have yK:Hid (∀ wx,Below w4.heap.size w4 wx->SlR RTx 1 wx wx.heap.size (.slice A2 l.length c2) (Np.ef ⟨a.data.toList,l⟩)):=jq (λwx hb=>HBV.out.later jk vt hb);have HL:Hid ((Np.ef ⟨a.data.toList,l⟩).length=l.length):=jq (Np.tv _);rw[aX];clear aX;refine (TH a _ A2 l.length c2 l cu _ (yE.out _ ca.out ca.out.size)).mono ?_;rintro e w6 ⟨rfl,aW⟩;have gP:=aW.size;have cY:=jq (ca.out.trans (aW.mono (by omega)));have QK:=jq (zH.out.trans (aW.mono (by omega)));replace g0:w6.cell? ⟨w4.heap.size,0,none⟩=some (.string a):=(aW.cell (by dsimp only; omega)).trans g0;replace g1:w6.cell? ⟨w4.heap.size,1,none⟩=some (.slice A l.length c):=(aW.cell (by dsimp only; omega)).trans g1;replace g2:w6.cell? ⟨w4.heap.size,2,none⟩=some (.slice A2 l.length c2):=(aW.cell (by dsimp only; omega)).trans g2;clear aW
   cases sL:Np.yes (Np.AM l) with
   | false=>
    have HX:Hid (r=false):=jq (by rw[<-HR.out]; exact Np.aP λh=>rJ sL h.1.1.1.2);clear sL;go_wp2_with fail;go_ret;exact⟨aj HX.out.symm,cY.out⟩
   | true=>
    have KH:=jq (Np.eE.1 sL);clear sL;go_wp2_with fail;refine (UY a _ _ l _ HL.out _ (yE.out _ cY.out cY.out.size) (yK.out _ QK.out)).mono ?_;rintro e w7 ⟨rfl,eD⟩;have lM:=eD.size;have dN:=jq (cY.out.trans (eD.mono (by omega)));have aqJ:=jq (QK.out.trans (eD.mono (by omega)));replace g0:w7.cell? ⟨w4.heap.size,0,none⟩=some (.string a):=(eD.cell (by dsimp only; omega)).trans g0;replace g1:w7.cell? ⟨w4.heap.size,1,none⟩=some (.slice A l.length c):=(eD.cell (by dsimp only; omega)).trans g1;replace g2:w7.cell? ⟨w4.heap.size,2,none⟩=some (.slice A2 l.length c2):=(eD.cell (by dsimp only; omega)).trans g2;clear eD
    cases CO:Np.yes (Np.qD l (Np.ef ⟨a.data.toList,l⟩)) with
    | false=>
     have HX:Hid (r=false):=jq (by rw[<-HR.out]; exact Np.aP λh=>rJ CO h.1.1.2);clear CO;go_wp2_with fail;go_ret;exact⟨aj HX.out.symm,dN.out⟩
    | true=>
     have HQ7:=jq (Np.eE.1 CO);clear CO;go_wp2_with fail;refine (Us a _ _ l _ HL.out _ (yE.out _ dN.out dN.out.size) (yK.out _ aqJ.out)).mono ?_;rintro e w8 ⟨rfl,kH⟩;have og:=kH.size;have eP:=jq (dN.out.trans (kH.mono (by omega)));replace g0:w8.cell? ⟨w4.heap.size,0,none⟩=some (.string a):=(kH.cell (by dsimp only; omega)).trans g0;replace g1:w8.cell? ⟨w4.heap.size,1,none⟩=some (.slice A l.length c):=(kH.cell (by dsimp only; omega)).trans g1;replace g2:w8.cell? ⟨w4.heap.size,2,none⟩=some (.slice A2 l.length c2):=(kH.cell (by dsimp only; omega)).trans g2;clear kH
     cases vO:Np.yes (Np.AO l (Np.ef ⟨a.data.toList,l⟩)) with
     | false=>
      have HX:Hid (r=false):=jq (by rw[<-HR.out]; exact Np.aP λh=>rJ vO h.1.2);clear vO;go_wp2_with fail;go_ret;exact⟨aj HX.out.symm,eP.out⟩
     | true=>
      have EA:=jq (Np.eE.1 vO);clear vO;go_wp2_with fail;refine (Ug a _ A2 l.length c2 l _ (yE.out _ eP.out eP.out.size)).mono ?_;rintro e w9 ⟨rfl,dY⟩;have tc:=dY.size;have fX:=jq (eP.out.trans (dY.mono (by omega)));replace g0:w9.cell? ⟨w4.heap.size,0,none⟩=some (.string a):=(dY.cell (by dsimp only; omega)).trans g0;replace g1:w9.cell? ⟨w4.heap.size,1,none⟩=some (.slice A l.length c):=(dY.cell (by dsimp only; omega)).trans g1;replace g2:w9.cell? ⟨w4.heap.size,2,none⟩=some (.slice A2 l.length c2):=(dY.cell (by dsimp only; omega)).trans g2;clear dY
      cases Fb:Np.yes (∀ x∈l,Np.gV a.data.toList x.sigs) with
      | false=>
       have HX:Hid (r=false):=jq (by rw[<-HR.out]; exact Np.aP λh=>rJ Fb h.2);clear Fb;go_wp2_with fail;go_ret;exact⟨aj HX.out.symm,fX.out⟩
      | true=>
       have HQ9:=jq (Np.eE.1 Fb);clear Fb;go_wp2_with fail;go_ret;exact⟨aj (by rw[<-HR.out]; exact (Np.bO ⟨⟨⟨⟨⟨iJ.out,pt.out⟩,KH.out⟩,HQ7.out⟩,EA.out⟩,HQ9.out⟩).symm),fX.out⟩
end
section
open Go.RowKit Go.MapKept
def il(W:World)(B:Nat)(e:List Value)(p:Np.Placed):Prop:=∃ (s:ByteArray) (v:Value),s.data.toList=p.zone.apex/\s.size<=140737488355328/\SlR bK 5 W B v p.zone.sets/\e = [.int .i64 p.host,.string s,v]
theorem ig:dK il:=λ_ _ _ _ _ ⟨s,v,h1,h2,h3,h5⟩ hb=>⟨s,v,h1,h2,h3.keep aV hb,h5⟩
theorem gT:dV il:=λ_ _ _ _ _ ⟨s,v,h1,h2,h3,h5⟩ hb=>⟨s,v,h1,h2,h3.more bR hb,h5⟩
theorem DG{w:World}{B n c:Nat}{A:Option Addr}{xs:List Np.Placed}(h:SlR il 3 w B (.slice A n c) xs){k:Nat}{x:Np.Placed}(hx:xs[k]?=some x):∃ (b o:Nat) (s:ByteArray) (v:Value),A=some ⟨b,o,none⟩/\b<B/\s.data.toList=x.zone.apex/\s.size<=140737488355328/\SlR bK 5 w B v x.zone.sets/\w.cell? ⟨b,o+k * 3,none⟩=some (.int .i64 x.host)/\w.cell? ⟨b,o+k * 3+1,none⟩=some (.string s)/\w.cell? ⟨b,o+k * 3+2,none⟩=some v:=by
 obtain⟨A',c',hA',_,_,bU⟩:=h
 cases hA'
 obtain⟨b,o,e,hA,cD,hlen,hce,s,v,h1,h2,h3,he⟩:=bU k _ hx;subst he;exact⟨b,o,s,v,hA,cD,h1,h2,h3,hce 0 _ rfl,hce 1 _ rfl,hce 2 _ rfl⟩
def kU(r n:Nat)(w:World):Prop:=∃ es c kvs,w.heap[r]?=some (.map es c)/\es.toList.map (λe=>(e.key,e.val))=(kvs:List (List UInt8×Value)).map (λp=>(aH p.1,p.2))/\es.size<=n
theorem kU.lt{r n:Nat}{w:World}(h:kU r n w):r<w.heap.size:=by
 obtain⟨es,c,kvs,h,_⟩:=h;exact (eQ.1 h).1
theorem kU.keep{r k:Nat}{w w':World}{n:Nat}(h:kU r k w)(hb:Below n w w')(hn:r<n):kU r k w':=by
 obtain⟨es,c,kvs,h,h2⟩:=h;exact⟨es,c,kvs,(hb.block r hn).trans h,h2⟩
theorem kU.turned{r k r':Nat}{w w':World}(h:kU r k w)(ht:Turned r' w w')(hne:r≠r'):kU r k w':=by
 obtain⟨es,c,kvs,h,h2⟩:=h;exact⟨es,c,kvs,(ht.block r hne).trans h,h2⟩
theorem kU.made(w:World):kU w.heap.size 0 (w.alloc (.map #[] 0)):=⟨#[],0,[],heap_alloc_new _ _,rfl,bQ _⟩
theorem UX(x:List UInt8):∀ (es:List MapEntry) (kvs:List (List UInt8×Value)) (i:Nat),es.map (λe=>(e.key,e.val))=kvs.map (λp=>(aH p.1,p.2))->
 (∃ j e,es[j]?=some e/\e.key=aH x/\Instr.findNow .string (aH x) es i=some (some (i+j,e.val)))\/Instr.findNow .string (aH x) es i=some none:=by
 intro es
 induction es with
 | nil=>
  intro kvs i h;exact .inr rfl
 | cons e es ih=>
  intro kvs i h
  cases kvs with
  | nil=>simp at h
  | cons p kvs=>
   obtain⟨y,u⟩:=p;simp only[List.map_cons,List.cons.injEq,Prod.mk.injEq] at h;obtain⟨⟨h1,h2⟩,h3⟩:=h;have hs:Instr.sameNow .string (aH x) e.key=some (x == y):=by rw[h1]; simp only[Instr.sameNow]; rw[Oq]
   by_cases cI:x=y
   ·subst cI;have hb:(x == x)=true:=by simp
    rw[hb] at hs;exact .inl ⟨0,e,rfl,h1,by simp only[Instr.findNow,hs]; rfl⟩
   ·have hb:(x == y)=false:=by simpa using cI
    rw[hb] at hs;rcases ih kvs (i+1) h3 with ⟨j,e',j1,j2,j3⟩ | h4
    ·exact .inl ⟨j+1,e',by simpa using j1,j2,by simp only[Instr.findNow,hs]; rw[j3,show i+1+j=i+(j+1) by omega]⟩
    ·exact .inr (by simp only[Instr.findNow,hs]; exact h4)
theorem YU(a:ByteArray)(P:Program)(w:World):(Instr.keyThatStays (.string a) (.string a)).run P w = .ok (.string a) w:=by
 have h1:(a == a)=true:=by
  show (a.data == a.data)=true;simp
 have:Instr.sameBits 10000 (.string a) (.string a)=true:=by simp[Instr.sameBits,h1]
 simp[Instr.keyThatStays,this]
section
variable {P:Program} {ops:Array Oper} {rest:List Oper} {o:Oper} {a:Act} {Q:Exit->Act->World->Prop}
theorem Tu(w:World)(hg:o.guard=none)(m x v:Operand)(t:TypeId)(kx:o.op=Op.mapUpdate t m x v)(kt et:TypeId)(ht:P.underlying t=some (.map kt et))(hk:P.underlying kt=some .string)
 (r n:Nat) (hm:a.eval m = .map (some r)) (hr:kU r n w) (key:List UInt8) (hx:a.eval x=aH key) (val:Value) (hv:a.eval v=val)
 (hK:∀ w',kU r (n+1) w'->Turned r w w'->wpList P ops Q rest (a.put o.dst undef) w'):wpList P ops Q (o::rest) a w:=by
 obtain⟨es,c,kvs,hr,he,hn⟩:=hr;refine wpList_plain hg λK' hK'=>?_;have hc:(Instr.checkKey false 10000 kt (aH key)).run P w = .ok () w:=MapKept.run_checkKey (k:=aH key) hk (by simp[MapKept.IsKey]) false 9999;have hl:r<w.heap.size:=(eQ.1 hr).1;rcases UX key es.toList kvs 0 he with ⟨j,e,j1,j2,hf⟩ | hf
 ·have uF:(Instr.keyThatStays (((es[j]?).map (·.key)).getD (aH key)) (aH key)).run P w = .ok (aH key) w:=by
   rw[Array.getElem?_toList] at j1;rw[j1];simp only[Option.map_some,Option.getD_some];rw[j2];exact YU _ P w
  rw[Nat.zero_add] at hf;have dH:(Instr.mapUpdate t (.map (some r)) (aH key) val).run P w = .ok () { w with heap:=w.heap.setIfInBounds r (.map (es.modify j λe=>{ e with key:=aH key,val:=val }) c) }:=by
   simp[Instr.mapUpdate,run_underlying ht,MapKept.run_getObj_map hr,hc,MapKept.run_findKey hk hf,uF,MapKept.run_setObj_map _ hr,Result.andThen]
  unfold Oper.wp;simp[execOp,kx,hm,hx,hv,dH,Result.andThen];refine hK' _ _ (hK _ ⟨es.modify j λe=>{ e with key:=aH key,val:=val },c,kvs.modify j λ_=>(key,val),by simp[hl],?_,by simp; omega⟩ ⟨rfl,rfl,rfl,by simp,λi hi=>by simp[Ne.symm hi]⟩);apply List.ext_getElem?;intro i;have hi:=Qd (λl=>l[i]?) he;simp only[List.getElem?_map] at hi |-;rw[Array.toList_modify,List.getElem?_modify,List.getElem?_modify];by_cases dL:j=i
  ·subst dL;simp only[if_true]
   cases h1:es.toList[j]? <;> cases h2:kvs[j]? <;> simp[h1,h2] at hi |-
  ·simp only[Qc dL];simpa using hi
 ·have dH:(Instr.mapUpdate t (.map (some r)) (aH key) val).run P w = .ok () { w with heap:=w.heap.setIfInBounds r (.map (es.push { key:=aH key,val:=val,born:=c }) (c+1)) }:=by
   simp[Instr.mapUpdate,run_underlying ht,MapKept.run_getObj_map hr,hc,MapKept.run_findKey hk hf,MapKept.run_setObj_map _ hr,Result.andThen]
  unfold Oper.wp;simp[execOp,kx,hm,hx,hv,dH,Result.andThen];exact hK' _ _ (hK _ ⟨es.push { key:=aH key,val:=val,born:=c },c+1,kvs ++ [(key,val)],by simp[hl],by simp[he],by simp; omega⟩ ⟨rfl,rfl,rfl,by simp,λi hi=>by simp[Ne.symm hi]⟩)
end
theorem MO{α:Type}[BEq α][LawfulBEq α][DecidableEq α](l:List α)(x:α):((l.map λy=>(y,Value.bool true)).lookup x).getD (.bool false) = .bool (decide (x∈l)):=by
 induction l with
 | nil=>simp
 | cons y l ih=>
  rw[List.map_cons,List.lookup_cons];by_cases h:x=y
  ·subst h; simp
  ·have hb:(x == y)=false:=by simpa using h
   rw[hb];simp only[ih,List.mem_cons,h,false_or]
theorem MP{α:Type}[BEq α][LawfulBEq α](l:List α)(x:α)(h:x∉l):(l.map λy=>(y,Value.bool true)).lookup x=none:=by
 induction l with
 | nil=>rfl
 | cons y l ih=>
  have hb:(x == y)=false:=by
   rw[beq_eq_false_iff_ne]; intro e; exact h (by simp[e])
  rw[List.map_cons,List.lookup_cons,hb];exact ih (λhm=>h (mQ _ hm))
def Np.js(p:Np.Placed):Int×List UInt8:=(p.host,p.zone.apex)
def Np.En(n:Nat)(p:Np.Placed):Prop:=(0<=p.host/\p.host<n)/\Np.VZone p.zone
def Np.pD(n:Nat)(l:List Np.Placed):Prop:=(∀ p∈l,Np.En n p)/\l.Pairwise λp q=>¬ (p.host=q.host/\p.zone.apex=q.zone.apex)
theorem VX{n k:Nat}{l:List Np.Placed}{x:Np.Placed}(hx:l[k]?=some x)(h:Np.pD n l):Np.En n x/\Np.js x∉(l.take k).map Np.js:=by
 refine⟨h.1 x (gQ hx),λhm=>?_⟩;obtain⟨y,hy,he⟩:=List.mem_map.1 hm;have h1:(l.take k ++ [x]).Pairwise λp q=>¬ (p.host=q.host/\p.zone.apex=q.zone.apex):=by
  obtain⟨hl,he⟩:=cQ.1 hx
  have:l.take k ++ [x]=l.take (k+1):=by rw[fQ hl,he]
  rw[this];exact h.2.sublist (List.take_sublist _ _)
 have h2:=(List.pairwise_append.1 h1).2.2 y hy x (by simp);unfold Np.js at he;simp only[Prod.mk.injEq] at he;exact h2 he
theorem Uq{n k:Nat}{l:List Np.Placed}{x:Np.Placed}(hx:l[k]?=some x)(h:Np.pD n (l.take k))(h1:Np.En n x)(h2:Np.js x∉(l.take k).map Np.js):Np.pD n (l.take (k+1)):=by
 obtain⟨hl,he⟩:=cQ.1 hx;have ht:l.take (k+1)=l.take k ++ [x]:=by rw[fQ hl,he]
 rw[ht];refine⟨λp hp=>?_,List.pairwise_append.2 ⟨h.2,by simp,λy hy z hz Ru=>?_⟩⟩
 ·rcases List.mem_append.1 hp with hp | hp
  ·exact h.1 p hp
  ·rw[List.mem_singleton] at hp; subst hp; exact h1
 ·rw[List.mem_singleton] at hz; subst hz;exact h2 (List.mem_map.2 ⟨y,hy,by unfold Np.js; simp[Ru.1,Ru.2]⟩)
end
namespace Np
def cU(a:List UInt8)(l:List Signed):List (List UInt8):=(l.filter λx=>decide (x.set.type=2)&&!(x.set.name == a)).map (·.set.name)
theorem WU(a:List UInt8)(l:List Signed)(x:Signed):cU a (l ++ [x])=if x.set.type=2/\x.set.name≠a then cU a l ++ [x.set.name] else cU a l:=by
 unfold cU;rw[List.filter_append];by_cases h1:x.set.type=2 <;> by_cases h2:x.set.name=a <;> simp[h1,h2]
theorem Ag{a:List UInt8}{l:List Signed}{c:List UInt8} : c∈cU a l↔cT ⟨a,l⟩ c=true:=by
 unfold cU;rw[Hb,List.mem_map];constructor
 ·rintro⟨x,hx,rfl⟩;obtain⟨h1,h2⟩:=List.mem_filter.1 hx;simp only[Bool.and_eq_true,Qa,Bool.not_eq_true',beq_eq_false_iff_ne] at h2;exact⟨x,h1,h2.1,h2.2,rfl⟩
 ·rintro⟨x,hx,h1,h2,rfl⟩;exact⟨x,List.mem_filter.2 ⟨hx,by simpa [h1] using h2⟩,rfl⟩
theorem Mn{z:Zone}(h:InOrder z):(cU z.apex z.sets).Pairwise λa b=>aM a b<0:=by
 unfold cU;rw[List.pairwise_map];have h1:(z.sets.filter λx=>decide (x.set.type=2)&&!(x.set.name == z.apex)).Pairwise λa b=>io a.set b.set<0:=by
  have:=h.order
  rw[List.pairwise_map] at this;exact this.sublist List.filter_sublist
 refine h1.imp_of_mem λ{a b} ha hb ab=>?_;obtain⟨_,ha⟩:=List.mem_filter.1 ha;obtain⟨_,hb⟩:=List.mem_filter.1 hb;simp only[Bool.and_eq_true,Qa] at ha hb;rcases Int.lt_or_eq_of_le (MY ab) with h2 | h2
 ·exact h2
 ·have:=MX ab (fH.zero _ _ h2)
  omega
def oC(out:List (List UInt8))(c:List UInt8):List (List UInt8):=
 match out.getLast? with
 | none=>[c]
 | some h=>if bG c h=true then out else out ++ [c]
def eq(l:List (List UInt8)):List (List UInt8):=l.foldl oC []
theorem Nv(l:List (List UInt8))(c:List UInt8):eq (l ++ [c])=oC (eq l) c:=by simp[eq]
structure Cl(l out:List (List UInt8)):Prop where
 sub:out.Sublist l
 above:∀ c∈l,∃ h∈out,bG c h=true
 top:∀ h∈out,∀ c∈l,bG h c=true->c=h
theorem XZ{l out:List (List UInt8)}{c:List UInt8}(hne:∀ x∈l ++ [c],x≠[])(hs:(l ++ [c]).Pairwise λa b=>aM a b<0)(h:Cl l out):Cl (l ++ [c]) (oC out c):=by
 obtain⟨h1,_,h3⟩:=List.pairwise_append.1 hs;have ab:∀ x∈l,aM x c<0:=λx hx=>h3 x hx c (by simp);have hout:∀ x∈out,x∈l:=λx hx=>h.sub.subset hx;have Bi:c≠[]:=hne c (by simp);have R5:∀ x∈l,bG x c=true->False:=λx hx hu=>by
  have a1:=DJ Bi hu;have a2:=fH.anti _ _ (ab x hx);omega
 unfold oC
 cases hg:out.getLast? with
 | none=>
  have ho:out = []:=by simpa using hg
  have hl:l = []:=by
   cases l with
   | nil=>rfl
   | cons y l=>obtain⟨q,hq,_⟩:=h.above y (by simp); rw[ho] at hq; cases hq
  subst ho hl;refine⟨by simp,λx hx=>⟨c,by simp,?_⟩,λx hx y hy _=>?_⟩
  ·simp at hx; subst hx; exact Dq _
  ·simp at hx hy; rw[hx,hy]
 | some q=>
  have hq:q∈out:=List.mem_of_getLast? hg;dsimp only;split
  ·rename_i hu;refine⟨h.sub.trans (List.sublist_append_left _ _),λx hx=>?_,λx hx y hy cI=>?_⟩
   ·rcases List.mem_append.1 hx with hx | hx
    ·exact h.above x hx
    ·simp at hx; subst hx; exact⟨q,hq,hu⟩
   ·rcases List.mem_append.1 hy with hy | hy
    ·exact h.top x hx y hy cI
    ·simp at hy; subst hy; exact (R5 x (hout x hx) cI).elim
  ·rename_i hu;refine⟨List.Sublist.append h.sub (List.Sublist.refl _),λx hx=>?_,λx hx y hy cI=>?_⟩
   ·rcases List.mem_append.1 hx with hx | hx
    ·obtain⟨t,ht,lN⟩:=h.above x hx;exact⟨t,List.mem_append_left _ ht,lN⟩
    ·simp at hx; subst hx; exact⟨x,by simp,Dq _⟩
   ·rcases List.mem_append.1 hx with fB | fB
    ·rcases List.mem_append.1 hy with sX | sX
     ·exact h.top x fB y sX cI
     ·rw[List.mem_singleton] at sX; rw[sX] at cI; exact (R5 x (hout x fB) cI).elim
    ·simp at fB; subst fB;rcases List.mem_append.1 hy with hy | hy
     ·exfalso;obtain⟨t,ht,lN⟩:=h.above y hy;have Rg:t≠[]:=hne t (List.mem_append_left _ (hout t ht));have hyn:y≠[]:=hne y (List.mem_append_left _ hy);have P7:=Gr hyn Rg cI lN;by_cases JJ:t=q
      ·subst JJ; exact hu P7
      ·obtain⟨o',ho'⟩:=List.getLast?_eq_some_iff.1 hg;have S6:out.Pairwise λa b=>aM a b<0:=h1.sublist h.sub;rw[ho'] at S6 ht;have SV:t∈o':=by
        rcases List.mem_append.1 ht with ht | ht
        ·exact ht
        ·simp at ht; exact absurd ht JJ
       have uH:=(List.pairwise_append.1 S6).2.2 t SV q (by simp);have hqx:=ab q (hout q hq);have BF:=Gh Rg P7 (Int.le_of_lt uH) (Int.le_of_lt hqx);exact JJ (h.top q hq t (hout t (by rw[ho']; exact List.mem_append_left _ SV)) BF)
     ·simp at hy; exact hy
theorem Oe:∀ (r p:List (List UInt8)),(∀ x∈p++r,x≠[])->(p++r).Pairwise (λa b=>aM a b<0)->Cl p (eq p)->Cl (p++r) (eq (p++r))
 | [],p,_,_,h=>by rw[List.append_nil]; exact h
 | c::r,p,hne,hs,h=>by
   have e:p++c::r=(p ++ [c])++r:=by simp
   rw[e] at hne hs |-;refine Oe r (p ++ [c]) hne hs ?_;rw[Nv];exact XZ (λx hx=>hne x (List.mem_append_left _ hx)) (List.pairwise_append.1 hs).1 h
theorem ZE(l:List (List UInt8))(hne:∀ x∈l,x≠[])(hs:l.Pairwise λa b=>aM a b<0):Cl l (eq l):=
 Oe l [] hne hs ⟨List.Sublist.refl _,λc hc=>(by cases hc),λh hh=>(by cases hh)⟩
theorem Pr{z:Zone}(h:InOrder z):Qg (cT z) (eq (cU z.apex z.sets))/\∀ c,cT z c=true->(∀ d,cT z d=true->bG c d=true->d=c)->c∈eq (cU z.apex z.sets):=by
 have hne:∀ x∈cU z.apex z.sets,x≠[]:=λx hx=>Am h x (Ag.1 hx);have ho:=ZE _ hne (Mn h);refine⟨⟨λc hc=>⟨Ag.1 (ho.sub.subset hc),λd hd hu=>ho.top c hc d (Ag.2 hd) hu⟩,(Mn h).sublist ho.sub⟩,λc hc ht=>?_⟩;obtain⟨t,h1,h2⟩:=ho.above c (Ag.2 hc);rw[<-ht t (Ag.1 (ho.sub.subset h1)) h2];exact h1
def jG(H:List (List UInt8))(k:Nat)(n:List UInt8):List UInt8:=if 0<k/\bG n (H[k - 1]?.getD [])=true then H[k - 1]?.getD [] else []
theorem T6{z:Zone}(h:InOrder z){n:List UInt8}{k:Nat}(hk:k<=(eq (cU z.apex z.sets)).length)(h1:∀ j x,j<k->(eq (cU z.apex z.sets))[j]?=some x->aM x n<=0)(h2:∀ j x,k<=j->(eq (cU z.apex z.sets))[j]?=some x->0<aM x n):jM (cT z) n (jG (eq (cU z.apex z.sets)) k n):=by
 obtain⟨p1,p2⟩:=Pr h
 have:=YV (Am h) p1 (n:=n) (λc hc ht _=>p2 c hc ht) hk (λj hj Ck=>h1 j _ Ck (aQ hj)) (λj hj Ck=>h2 j _ Ck (aQ hj))
 unfold jG;split
 ·rename_i hc; rw[dif_pos hc] at this; exact this
 ·rename_i hc; rw[dif_neg hc] at this; exact this
end Np
section
open Go.RowKit
def cB(base:Nat)(w:World)(v:Value)(ps:List (List UInt8)):Prop:=w.ownsRow base 9 1 v ps.length (ps.map aH)
theorem cB.form{base:Nat}{w:World}{v:Value}{ps:List (List UInt8)}(h:cB base w v ps):∃ A c,v = .slice A ps.length c:=xX h
theorem cB.alloc{base:Nat}{w:World}{v:Value}{ps:List (List UInt8)}(h:cB base w v ps)(o:Obj):cB base (w.alloc o) v ps:=World.ownsRow.alloc h o
theorem cB.keep{base:Nat}{w w':World}{v:Value}{ps:List (List UInt8)}(h:cB base w v ps)(hb:Below w.heap.size w w'):cB base w' v ps:=fL h (λg hg=>hb.block g (h.lt g hg).2)
theorem cB.slr{base:Nat}{w:World}{v:Value}{ps:List (List UInt8)}(h:cB base w v ps)(hl:ps.length<=140737488355328)(an:∀ x∈ps,x.length<=140737488355328):SlR RTx 1 w w.heap.size v ps:=by
 refine GF (sz:=1) (e:=9) (base:=base) (λx=>[aH x]) (λ_ _=>rfl) ?_ hl (λx hx=>⟨⟨x.toArray⟩,by simp,an x hx,rfl⟩)
 have:w.ownsRow base 9 1 v ps.length (ps.map aH):=h
 simpa [OF] using this
section
variable {ops:Array Oper} {rest:List Oper} {o:Oper} {a:Act} {Q:Exit->Act->World->Prop}
theorem xU(w:World)(jA:o.guard=none)(s x:Operand)(ho:o.op = .call { callee:=.builtin .append,args:=#[s,x],argTypes:=#[38,38] })
 (base:Nat) (v:Value) (ps:List (List UInt8)) (hs:a.eval s=v) (hown:cB base w v ps) (blk:Nat) (y:List UInt8) (hx:a.eval x = .slice (some ⟨blk,0,none⟩) 1 1) (hc:w.cell? ⟨blk,0,none⟩=some (aH y)) (hlen:ps.length<=100000) (eS:base<=w.heap.size)
 (h:∀ v' w',cB base w' v' (ps ++ [y])->Below base w w'->wpList prog ops Q rest (a.put o.dst v') w'):wpList prog ops Q (o::rest) a w:=by
 obtain⟨i0,hi,ea,bI,aN⟩:=info_parts Tryz.infoStr;refine wpList_append_own_at w jA s x 38 ho base 9 i0 (.string ⟨#[]⟩) 1 16 underlying38 hi ea bI aN rfl (by decide) v ps.length (ps.map aH) hs hown ⟨blk,0,none⟩ 1 1 [aH y] hx rfl ?_ (by simp[Value.oneCell']) (by unfold maxLen; omega) (by omega) eS ?_
 ·intro j u hj
  cases j with
  | zero=>simp at hj; subst hj; simpa [Addr.add] using hc
  | succ j=>simp at hj
 ·intro v' w' ho' hg _ _;refine h v' w' ?_ ((vQ _ _).grown hg eS (λk hk=>(hown.lt k hk).1));have e:(ps ++ [y]).length=ps.length+1:=by simp
  unfold cB;rw[e,List.map_append];exact ho'
end
theorem Vp(a:ByteArray)(v:Value)(l:List Np.Signed)(cu:l.length<=20000)(w:World)(hd:SlR bK 5 w w.heap.size v l) :
 Calls prog 253 #[.agg #[.string a,v]] w (yx RTx 1 w (Np.cU a.data.toList l)):=by
 have HD:=jq hd;obtain⟨A,c,rfl,bC,bH⟩:=ag hd;clear hd;have mP:Hid (∀ k,(Np.cU a.data.toList (l.take k)).length<=20000):=jq (λk=>by
  unfold Np.cU;rw[List.length_map];exact yQ (List.length_filter_le _ _) (by rw[List.length_take]; omega))
 have HW:Hid (∀ o,Below w.heap.size w (w.alloc o)):=jq (λo=>(vQ _ w).alloc (bQ _) _);have q9:Hid (∀ x∈Np.cU a.data.toList l,x.length<=140737488355328):=jq (λx hx=>by
  unfold Np.cU at hx;obtain⟨y,hy,rfl⟩:=List.mem_map.1 hx;obtain⟨j,hj,rfl⟩:=nQ.1 (List.mem_filter.1 hy).1;obtain⟨_,_,_,s,_,_,_,_,_,hs,hz,_⟩:=eT HD.out (aQ hj);rw[<-hs,bn]; exact hz)
 go_enter func253,ntmps253;go_wp2_with fail;obtain⟨w1,al⟩:∃ w1,w.alloc (.cells #[.string a,.slice A l.length c] 56)=w1:=⟨_,rfl⟩;have c0:w1.cell? ⟨w.heap.size,0,none⟩=some (.string a):=by rw[<-al]; simp[go_sem]
 have c1:w1.cell? ⟨w.heap.size,1,none⟩=some (.slice A l.length c):=by rw[<-al]; simp[go_sem]
 have bI:w1.heap.size=w.heap.size+1:=by rw[<-al]; simp
 have aF:Hid (Below w.heap.size w w1):=jq (by rw[<-al]; exact HW.out _);rw[al];clear al;go_loopw [3,4] (λvo i wr=>∃ (k:Nat),k<=l.length/\i = .int .i64 k/\Hid (Below w1.heap.size w1 wr)/\Hid (cB w1.heap.size wr vo (Np.cU a.data.toList (l.take k)))) (λ_ i _=>l.length - (intOf i).toNat)
 case atStart=>exact⟨0,jQ _,rfl,jq (vQ _ _),jq ⟨by simp,.inl ⟨rfl,rfl⟩⟩⟩
 case round=>
  obtain⟨k,hk,rfl,HB,HO⟩:=hrel;have an:=HB.out.size;have d0:wr.cell? ⟨w.heap.size,0,none⟩=some (.string a):=(HB.out.cell (by dsimp only; omega)).trans c0;have d1:wr.cell? ⟨w.heap.size,1,none⟩=some (.slice A l.length c):=(HB.out.cell (by dsimp only; omega)).trans c1;have aD:=jq (aF.out.trans (HB.out.mono (by omega)));have dF:w.heap.size<wr.heap.size:=by omega
  by_cases ab:k<l.length
  ·obtain⟨x,ac⟩:∃ x,l[k]?=some x:=⟨_,aQ ab⟩;obtain⟨b,o,c',sn,dv,sv,hA,bg,_,az,bL,bd,aL,f0,f1,f2,f3,f4⟩:=eT (HD.out.keep aV aD.out) ac
   cases hA
   obtain⟨Ad,cd,rfl,_,_⟩:=ag bd;have HT:Hid (Np.cU a.data.toList (l.take (k+1))=if x.set.type=2/\x.set.name≠a.data.toList then Np.cU a.data.toList (l.take k) ++ [x.set.name] else Np.cU a.data.toList (l.take k)):=jq (by
    obtain⟨hl,he⟩:=cQ.1 ac;rw[fQ hl,Np.WU,he])
   have aS:=jq az;have bW:(0:Int)<=(k:Int):=by omega
   have bV:(k:Int)<(l.length:Int):=by omega
   have aq:b<wr.heap.size:=by omega
   have br:Hid (∀ o,Below w1.heap.size w1 (wr.alloc o)):=jq (λo=>HB.out.alloc HB.out.size _);have nf:=jq (mP.out k);clear ac az bd aL f4;by_cases h2:x.set.type=2
   ·have aa:(x.set.type == 2)=true:=by simpa using h2
    by_cases hn:x.set.name=a.data.toList
    ·have jV:(!sn.toList == a.toList)=false:=by rw[dQ,dQ,aS.out,hn]; simp
     have lL:=jq (HT.out.trans (Qc λh=>h.2 hn));clear h2 hn;go_wp2_with fail;go_roundw
     case rel=>exact⟨k+1,by omega,by go_num,jq (br.out _),jq (by rw[lL.out]; exact HO.out.alloc _)⟩
     case measure=>simp[intOf] <;> omega
    ·have jV:(!sn.toList == a.toList)=true:=by rw[dQ,dQ,aS.out]; simpa using hn
     have lL:=jq (HT.out.trans (Qb ⟨h2,hn⟩));clear h2 hn;go_wp2_with (at_builtin; refine xU _ rfl _ _ rfl w1.heap.size _ (Np.cU a.data.toList (l.take k)) rfl ((HO.out.alloc _).alloc _) (wr.heap.size+1) sn.data.toList (by simp[go_sem]) (by simp[go_sem]) (by have:=nf.out; omega) (by simp; omega) ?_; intro v5 w5 eN aA; have H5:=jq (And.intro eN aA); clear eN aA);go_roundw
     case rel=>exact⟨k+1,by omega,by go_num,jq (((br.out _).alloc (by simp; omega) _).trans H5.out.2),jq (by rw[lL.out,<-aS.out]; exact H5.out.1)⟩
     case measure=>simp[intOf] <;> omega
   ·have aa:(x.set.type == 2)=false:=by simpa using h2
    have lL:=jq (HT.out.trans (Qc λh=>h2 h.1));clear h2;go_wp2_with fail;go_roundw
    case rel=>exact⟨k+1,by omega,by go_num,jq (br.out _),jq (by rw[lL.out]; exact HO.out.alloc _)⟩
    case measure=>simp[intOf] <;> omega
  ·have HE:Hid (l.take k=l):=jq (kQ (by omega));go_wp2_with fail;go_ret;refine⟨_,rfl,?_,aD.out⟩;have h1:=HO.out;have h2:=mP.out k;rw[HE.out] at h1 h2;exact h1.slr (by omega) q9.out
end
section
open Go.RowKit Go.MapKept
def iF(W:World)(B:Nat)(e:List Value)(c:Np.Copy):Prop:=∃ (s:ByteArray) (v:Value),s.data.toList=c.zone.apex/\s.size<=140737488355328/\SlR bK 5 W B v c.zone.sets/\e = [.int .i64 c.host,.int .i64 c.frm,.int .i64 c.til,.string s,v]
theorem fk:dK iF:=λ_ _ _ _ _ ⟨s,v,h1,h2,h3,h5⟩ hb=>⟨s,v,h1,h2,h3.keep aV hb,h5⟩
theorem kK:dV iF:=λ_ _ _ _ _ ⟨s,v,h1,h2,h3,h5⟩ hb=>⟨s,v,h1,h2,h3.more bR hb,h5⟩
theorem nC{w:World}{B n c:Nat}{A:Option Addr}{xs:List Np.Copy}(h:SlR iF 5 w B (.slice A n c) xs){k:Nat}{x:Np.Copy}(hx:xs[k]?=some x):∃ (b o:Nat) (s:ByteArray) (v:Value),A=some ⟨b,o,none⟩/\b<B/\s.data.toList=x.zone.apex/\s.size<=140737488355328/\SlR bK 5 w B v x.zone.sets/\w.cell? ⟨b,o+k * 5,none⟩=some (.int .i64 x.host)/\w.cell? ⟨b,o+k * 5+1,none⟩=some (.int .i64 x.frm)/\w.cell? ⟨b,o+k * 5+2,none⟩=some (.int .i64 x.til)/\w.cell? ⟨b,o+k * 5+3,none⟩=some (.string s)/\w.cell? ⟨b,o+k * 5+4,none⟩=some v:=by
 obtain⟨A',c',hA',_,_,bU⟩:=h
 cases hA'
 obtain⟨b,o,e,hA,cD,hlen,hce,s,v,h1,h2,h3,he⟩:=bU k _ hx;subst he;exact⟨b,o,s,v,hA,cD,h1,h2,h3,hce 0 _ rfl,hce 1 _ rfl,hce 2 _ rfl,hce 3 _ rfl,hce 4 _ rfl⟩
theorem Xa(h f u:Int)(s:ByteArray)(v:Value)(w:World) :
 Calls prog 50 #[.agg #[.int .i64 h,.int .i64 f,.int .i64 u,.string s,v]] w λe w'=>e = .returned (.string s)/\Below w.heap.size w w':=by
 have HB:Hid (∀ o,Below w.heap.size w (w.alloc o)):=jq (λo=>(vQ _ w).alloc (bQ _) _);go_enter func50,ntmps50;go_wp2_with fail;go_ret;exact⟨rfl,HB.out _⟩
theorem cB.turned{base r:Nat}{w w':World}{v:Value}{ps:List (List UInt8)}(h:cB base w v ps)(ht:Turned r w w')(hr:r<base):cB base w' v ps:=fL h (λg hg=>ht.block g (by have:=(h.lt g hg).1; omega))
theorem cB.weak{base base':Nat}{w:World}{v:Value}{ps:List (List UInt8)}(h:cB base w v ps)(hb:base'<=base):cB base' w v ps:=by
 refine⟨h.1,?_⟩;rcases h.2 with h2 | ⟨g,cap,cur,h1,h2,h3⟩
 ·exact .inl h2
 ·exact .inr ⟨g,cap,cur,h1,yQ hb h2,h3⟩
def AG(ks:List (List UInt8)):List (List UInt8×Value):=ks.map λy=>(y,Value.bool true)
theorem Nf(v:Value)(l:List Np.Copy)(cu:l.length<=20000)(w:World)(h:SlR iF 5 w w.heap.size v l) :
 Calls prog 49 #[v,.func (.func 50) #[] #[]] w λe w'=>∃ v',e = .returned v'/\cB w.heap.size w' v' (Np.cH (l.map (·.zone.apex)))/\Below w.heap.size w w':=by
 have HD:=jq h;obtain⟨A,c,rfl,bC,bH⟩:=ag h;clear h;have wN:∀ (w:World),(Instr.makeMap 151 none).run prog w = .ok (.map (some w.heap.size)) (w.alloc (.map #[] 0)):=λw=>by
  simp[Instr.makeMap,Result.andThen]
 have nf:Hid (∀ k,(Np.cH ((l.take k).map (·.zone.apex))).length<=20000):=jq (λk=>by
  have h1:=Np.vq ((l.take k).map (·.zone.apex));rw[List.length_map,List.length_take] at h1;omega)
 go_enter func49,ntmps49;go_wp2_with fail;have vZ:=jq (dW.made w);have aF:Hid (Below w.heap.size w (w.alloc (.map #[] 0))):=jq ((vQ _ w).alloc (bQ _) _);have bI:w.heap.size<(w.alloc (.map #[] 0)).heap.size:=by simp
 generalize w.alloc (.map #[] 0)=w1 at *;go_loopw [6,13] (λvo i wr=>∃ k:Nat,k<=l.length/\i = .int .i64 k/\Hid (Below w.heap.size w wr)/\w.heap.size<wr.heap.size/\Hid (dW w.heap.size (AG (Np.cH ((l.take k).map (·.zone.apex)))) wr)/\Hid (cB (w.heap.size+1) wr vo (Np.cH ((l.take k).map (·.zone.apex))))) (λ_ i _=>l.length - (intOf i).toNat)
 case atStart=>exact⟨0,jQ _,rfl,aF,bI,vZ,jq ⟨by simp[Np.cH],.inl ⟨rfl,rfl⟩⟩⟩
 case round=>
  obtain⟨k,hk,rfl,HB,dF,HM,HO⟩:=hrel;by_cases ab:k<l.length
  ·obtain⟨x,ac⟩:∃ x,l[k]?=some x:=⟨_,aQ ab⟩;obtain⟨b,o,sn,vz,rfl,bg,az,bL,bX,f0,f1,f2,f3,f4⟩:=nC (HD.out.keep fk HB.out) ac;obtain⟨Az,cz,rfl,_,_⟩:=ag bX;obtain⟨nz,iq⟩:∃ nz,x.zone.sets.length=nz:=⟨_,rfl⟩;rw[iq] at f4;obtain⟨ks,uF⟩:∃ ks,Np.cH ((l.take k).map (·.zone.apex))=ks:=⟨_,rfl⟩;have HT:Hid (Np.cH ((l.take (k+1)).map (·.zone.apex))=Np.kT ks sn.data.toList):=jq (by
    obtain⟨hl,he⟩:=cQ.1 ac;rw[fQ hl,he,List.map_append,<-uF,az];exact Np.Ab _ _)
   have lq:Hid (ks.length<=20000):=jq (by rw[<-uF]; exact nf.out k);rw[uF] at HM HO;obtain⟨w2,ai⟩:∃ w2,wr.alloc (.cells #[.int .i64 x.host,.int .i64 x.frm,.int .i64 x.til,.string sn,.slice Az nz cz] 58)=w2:=⟨_,rfl⟩;have aa:Below wr.heap.size wr w2:=by rw[<-ai]; exact (vQ _ _).alloc (bQ _) _
   have aN:wr.heap.size<w2.heap.size:=by rw[<-ai]; simp
   have p0:w2.cell? ⟨wr.heap.size,0,none⟩=some (.int .i64 x.host):=by rw[<-ai]; simp[go_sem]
   have p1:w2.cell? ⟨wr.heap.size,1,none⟩=some (.int .i64 x.frm):=by rw[<-ai]; simp[go_sem]
   have p2:w2.cell? ⟨wr.heap.size,2,none⟩=some (.int .i64 x.til):=by rw[<-ai]; simp[go_sem]
   have p3:w2.cell? ⟨wr.heap.size,3,none⟩=some (.string sn):=by rw[<-ai]; simp[go_sem]
   have p4:w2.cell? ⟨wr.heap.size,4,none⟩=some (.slice Az nz cz):=by rw[<-ai]; simp[go_sem]
   have ak:=jq aa;have an:=HB.out.size;clear ac az bX iq uF aa;go_wp2_with fail;refine (Xa _ _ _ _ _ _).mono ?_;rintro e w3 ⟨rfl,ah⟩;have av:=jq (ak.out.trans (ah.mono (by omega)));have dP:wr.heap.size<w3.heap.size:=by have:=ah.size; omega
   have ru:Hid (dW w.heap.size (AG ks) w3):=jq (HM.out.keep av.out dF);have eJ:Hid (cB (w.heap.size+1) w3 _ ks):=jq (HO.out.keep av.out);clear ah ai p0 p1 p2 p3 p4 f0 f1 f2 f3 f4;have mE:=Ge (P:=prog) w3 151 9 4 underlying151 underlying9 w.heap.size _ ru.out sn.data.toList (.bool false) (by kernel_rfl);unfold AG at mE;rw[MO] at mE;by_cases hin:sn.data.toList∈ks
   ·have fV:Hid (Np.cH ((l.take (k+1)).map (·.zone.apex))=ks):=jq (by rw[HT.out,Np.Hu hin]);rw[uQ hin] at mE;clear hin;go_wp2_with fail;go_roundw
    case rel=>exact⟨k+1,by omega,by go_num,jq (HB.out.trans (av.out.mono (by omega))),by omega,jq (by rw[fV.out]; exact ru.out),jq (by rw[fV.out]; exact eJ.out)⟩
    case measure=>simp[intOf] <;> omega
   ·have fV:Hid (Np.cH ((l.take (k+1)).map (·.zone.apex))=ks ++ [sn.data.toList]):=jq (by rw[HT.out,Np.kT,Qc hin]);have mX:Hid ((AG ks).lookup sn.data.toList=none):=jq (MP _ _ hin);rw[tQ hin] at mE;clear hin;go_wp2_with (first
     | (at_mapUpdate; refine LK _ rfl _ _ _ 151 rfl 9 4 underlying151 underlying9 w.heap.size _ rfl ru.out sn.data.toList rfl (.bool true) rfl mX.out ?_; intro w5 mF mg; have H5:=jq (And.intro mF mg); have gZ:Hid (cB (w.heap.size+1) w5 _ ks):=jq (cB.turned eJ.out mg (by omega)); have kF:wr.heap.size<w5.heap.size:=(by rw[mg.size]; exact dP); clear mF mg)
     | (at_builtin; refine xU _ rfl _ _ rfl (w.heap.size+1) _ ks rfl (gZ.out.alloc _) w5.heap.size sn.data.toList (by simp[go_sem]) (by simp[go_sem]) (by have:=lq.out; omega) (by simp; omega) ?_; intro v6 w6 lW aW; have H6:=jq (And.intro lW aW); clear lW aW))
    go_roundw
    case rel=>exact⟨k+1,by omega,by go_num,jq ((((HB.out.trans (av.out.mono (by omega))).trans (H5.out.2.below (bQ _))).alloc (by omega) _).trans (H6.out.2.mono (by omega))),by have:=H6.out.2.size; simp at this; omega,jq (by rw[fV.out]; unfold AG; rw[List.map_append]; exact (H5.out.1.keep ((vQ _ _).alloc (bQ _) _) (by omega)).keep H6.out.2 (by omega)),jq (by rw[fV.out]; exact H6.out.1)⟩
    case measure=>simp[intOf] <;> omega
  ·have HE':Hid (l.take k=l):=jq (kQ (by omega));go_wp2_with fail;go_ret;exact⟨_,rfl,by have:=HO.out.weak (Nat.le_succ _); rw[HE'.out] at this; exact this,HB.out⟩
end
section
open Go.RowKit
theorem NC{B:Nat}{M:Nat->Prop}{w:World}(hM:∀ k,M k->B<=k):Below B w (bp w M):=
 ⟨rfl,rfl,rfl,by rw[gH]; exact bQ _,λk hk=>j9 (λh=>by have:=hM k h; omega)⟩
theorem SlR.around{α:Type}{R:World->Nat->List Value->α->Prop}{sz B:Nat}{w:World}{v:Value}{xs:List α}{M:Nat->Prop}(h:SlR R sz w B v xs)(hk:dK R)(hm:dV R)(hM:∀ k,M k->B<=k)(hB:B<=w.heap.size):SlR R sz (bp w M) w.heap.size v xs:=
 (h.keep hk (NC hM)).more hm hB
theorem bJ.keep{α:Type}{R:World->Nat->List Value->α->Prop}{sz:Nat}{e:TypeId}{base:Nat}{M:Nat->Prop}{w w':World}{v:Value}{xs:List α}(h:bJ R sz e base M w v xs)(hk:dK R)(hs:fu R)(hm:dV R)(hb:Below w.heap.size w w'):bJ R sz e base M w' v xs:=by
 refine h.leaves hk hs hm (Leaves'.of_below hb) (λg hg=>?_);obtain⟨rows,h1,h2,h3,h4⟩:=h;exact⟨hb.block g (h2.lt g hg).2,h3 g hg⟩
theorem bJ.lt{α:Type}{R:World->Nat->List Value->α->Prop}{sz:Nat}{e:TypeId}{base:Nat}{M:Nat->Prop}{w:World}{v:Value}{xs:List α}(h:bJ R sz e base M w v xs):∀ g,v.ownBlock=some g->base<=g/\g<w.heap.size:=by
 obtain⟨rows,h1,h2,h3,h4⟩:=h;exact h2.lt
theorem bJ.formN{α:Type}{R:World->Nat->List Value->α->Prop}{sz:Nat}{e:TypeId}{base:Nat}{M:Nat->Prop}{w:World}{v:Value}{xs:List α}{n:Nat}(h:bJ R sz e base M w v xs)(hn:xs.length=n):∃ A c,v = .slice A n c:=by
 subst hn; exact h.form
theorem jj:fu il:=λ_ _ _ _ _ _ hM ⟨s,v,h1,h2,h3,h5⟩=>⟨s,v,h1,h2,h3.sans ji hM,h5⟩
theorem Me:∀ (w:World) (B:Nat) (r:List Value) (y:Np.Placed),il w B r y->∀ u∈r,u.oneCell'=true:=λw B r y ⟨s,v,_,_,h3,h5⟩ u hu=>by
 obtain⟨A,c,rfl,_⟩:=ag h3;rw[h5] at hu;simp only[List.mem_cons,Qh,or_false] at hu;rcases hu with rfl | rfl | rfl <;> rfl
theorem UA:∀ (w:World) (B:Nat) (r:List Value) (y:Np.Signed),bK w B r y->∀ u∈r,u.oneCell'=true:=λw B r y ⟨s,v,u',_,_,h3,h4,h5⟩ u hu=>by
 obtain⟨A,c,rfl,_⟩:=ag h3;obtain⟨A',c',rfl,_⟩:=ag h4;rw[h5] at hu;simp only[List.mem_cons,Qh,or_false] at hu;rcases hu with rfl | rfl | rfl | rfl | rfl <;> rfl
theorem bJ.slr_sans{α:Type}{R:World->Nat->List Value->α->Prop}{sz:Nat}{e:TypeId}{base:Nat}{M M':Nat->Prop}{w:World}{v:Value}{xs:List α}(hs:fu R)(hm:dV R)(h:bJ R sz e base M w v xs)(hM:∀ k,M' k->M k/\v.ownBlock≠some k)(hl:xs.length<=140737488355328):SlR R sz (bp w M') w.heap.size v xs:=by
 obtain⟨rows,h1,h2,h3,h4⟩:=h;have h5:bF R sz e base w.heap.size (bp w M') v xs:=⟨rows,h1,fL h2 (λg hg=>j9 (λhm'=>(hM g hm').2 hg)),λi r x hr hx=>⟨(h4 i r x hr hx).1,hs _ _ _ _ _ _ (λk hk=>(hM k hk).1) (h4 i r x hr hx).2⟩⟩;have h6:=h5.slr hm (by rw[gH]; exact bQ _) hl;rwa [gH] at h6
theorem Leaves'.slr{α:Type}{R:World->Nat->List Value->α->Prop}{sz:Nat}(hk:dK R)(hs:fu R)(hm:dV R){M M':Nat->Prop}{w w':World}(h:Leaves' M w w' M'){v:Value}{xs:List α}(hr:SlR R sz (bp w M) w.heap.size v xs):SlR R sz (bp w' M') w'.heap.size v xs:=by
 have hb:Below w.heap.size (bp w M) (bp w' λk=>M k\/M' k):=by
  refine⟨h.os,h.tape,h.output,by rw[gH,gH]; exact h.size,λk hk=>?_⟩;by_cases hm:M k
  ·rw[vr hm,vr (Or.inl hm)];have h1:k<w'.heap.size:=lQ hk h.size;simp[hk,h1]
  ·have hk':=h.keep k hk hm;rw[j9 hm,j9 (λe=>e.elim hm hk'.1)];exact hk'.2
 exact ((hr.keep hk hb).more hm h.size).sans hs (λ_ e=>.inr e)
def AL{α:Type}(R:World->Nat->List Value->α->Prop)(B n:Nat)(w:World)(e:List Value)(x:α):Prop:=∀ M:Nat->Prop,(∀ k,M k->B<=k/\k<n)->R (bp w M) w.heap.size e x
def fP{α:Type}(R:World->Nat->List Value->α->Prop)(sz B n:Nat)(w:World)(v:Value)(xs:List α):Prop:=∀ M:Nat->Prop,(∀ k,M k->B<=k/\k<n)->SlR R sz (bp w M) w.heap.size v xs
theorem AL.all{α:Type}{R:World->Nat->List Value->α->Prop}{B n:Nat}{w:World}{e:List Value}{x:α}(h:AL R B n w e x)(hs:fu R):R w w.heap.size e x:=hs.all (h (λ_=>False) (λ_ e=>e.elim))
theorem fP.all{α:Type}{R:World->Nat->List Value->α->Prop}{sz B n:Nat}{w:World}{v:Value}{xs:List α}(h:fP R sz B n w v xs)(hs:fu R):SlR R sz w w.heap.size v xs:=(h (λ_=>False) (λ_ e=>e.elim)).all hs
theorem zY:fu iF:=λ_ _ _ _ _ _ hM ⟨s,v,h1,h2,h3,h5⟩=>⟨s,v,h1,h2,h3.sans ji hM,h5⟩
theorem We:fu gW:=λ_ _ _ _ _ _ _ h=>h
theorem Xw:fu ip:=λ_ _ _ _ _ _ _ h=>h
theorem mH{α:Type}(R:World->Nat->List Value->α->Prop)(sz:Nat)(w:World)(B:Nat):SlR R sz w B (.slice none 0 0) []:=⟨none,0,rfl,by simp,by simp,λi x hx=>by simp at hx⟩
theorem ZF{sz:Nat}{rows:List (List Value)}(hl:∀ r∈rows,r.length=sz){i j:Nat}{r:List Value}{v:Value}(hi:rows[i]?=some r)(hj:r[j]?=some v):rows.flatten[i * sz+j]?=some v:=by
 induction rows generalizing i with
 | nil=>simp at hi
 | cons y l ih=>
  have hy:=hl y (by simp);rw[List.flatten_cons]
  cases i with
  | zero=>
   simp at hi; subst hi
   have:=(cQ.1 hj).1
   rw[Nat.zero_mul,Nat.zero_add,List.getElem?_append_left (by omega)];exact hj
  | succ i=>
   rw[oQ (by rw[hy,Nat.succ_mul]; omega),hy,show (i+1) * sz+j - sz=i * sz+j by rw[Nat.succ_mul]; omega];exact ih (λr hr=>hl r (mQ _ hr)) (by simpa using hi)
theorem L8(w:World)(l:List Value)(T:TypeId):cN (w.alloc (.cells l.toArray T)) w.heap.size 0 l:=λj v hj=>by
 have h:=heap_alloc_new w (.cells l.toArray T);unfold World.cell?;rw[h,Nat.zero_add];simpa using hj
theorem Hy{α:Type}{R:World->Nat->List Value->α->Prop}{sz:Nat}{w:World}{B b n:Nat}{xs:List α}(rows:List (List Value))(hn:xs.length=n)(hb:b<B)(hs:n<=1000)(hc:cN w b 0 rows.flatten)(hl:∀ r∈rows,r.length=sz)(hr:∀ (i:Nat) (x:α),xs[i]?=some x->∃ r,rows[i]?=some r/\R w B r x):SlR R sz w B (.slice (some ⟨b,0,none⟩) n n) xs:=by
 subst hn;refine⟨_,_,rfl,bQ _,by omega,λi x hx=>?_⟩;obtain⟨r,h1,h2⟩:=hr i x hx;exact⟨b,0,r,rfl,hb,hl r (gQ h1),λj v hj=>by
  have:=hc _ v (ZF hl h1 hj)
  rwa [Nat.zero_add] at this |-,h2⟩
theorem pC{α:Type}{R:World->Nat->List Value->α->Prop}{w:World}{B b:Nat}{x:α}(r:List Value)(hb:b<B)(hc:cN w b 0 r)(h:R w B r x):SlR R r.length w B (.slice (some ⟨b,0,none⟩) 1 1) [x]:=
 Hy [r] rfl hb (by omega) (by simpa using hc) (by simp) (λi y hy=>by
  match i,hy with
  | 0,hy=>cases hy; exact⟨_,rfl,h⟩
  | i+1,hy=>simp at hy)
theorem DX{α:Type}{R:World->Nat->List Value->α->Prop}{w:World}{B b:Nat}{x y:α}(r s:List Value)(hl:s.length=r.length)(hb:b<B)(hc:cN w b 0 (r++s))(h:R w B r x)(h2:R w B s y):SlR R r.length w B (.slice (some ⟨b,0,none⟩) 2 2) [x,y]:=
 Hy [r,s] rfl hb (by omega) (by simpa using hc) (by simp[hl]) (λi z hz=>by
  match i,hz with
  | 0,hz=>cases hz; exact⟨_,rfl,h⟩
  | 1,hz=>cases hz; exact⟨_,rfl,h2⟩
  | i+2,hz=>simp at hz)
theorem G7{α:Type}{R:World->Nat->List Value->α->Prop}{w:World}{B b:Nat}{x y z:α}(r s t:List Value)(hl:s.length=r.length)(dz:t.length=r.length)(hb:b<B)(hc:cN w b 0 (r++s++t))(h:R w B r x)(h2:R w B s y)(h3:R w B t z):SlR R r.length w B (.slice (some ⟨b,0,none⟩) 3 3) [x,y,z]:=
 Hy [r,s,t] rfl hb (by omega) (by simpa using hc) (by simp[hl,dz]) (λi u hu=>by
  match i,hu with
  | 0,hu=>cases hu; exact⟨_,rfl,h⟩
  | 1,hu=>cases hu; exact⟨_,rfl,h2⟩
  | 2,hu=>cases hu; exact⟨_,rfl,h3⟩
  | i+3,hu=>simp at hu)
theorem cN.off{w:World}{b o:Nat}{e:List Value}(h:cN w b o e){M:Nat->Prop}(hM:¬ M b):cN (bp w M) b o e:=λj v hj=>(iQ (a:=⟨b,o+j,none⟩) (j9 hM)).trans (h j v hj)
theorem Mr{α:Type}{R:World->Nat->List Value->α->Prop}{sz:Nat}{p:Nat->Prop}{w w':World}{v:Value}{xs:List α}(h:∀ M:Nat->Prop,(∀ k,M k->p k)->SlR R sz (bp w M) w.heap.size v xs)(hk:dK R)(hm:dV R)(hb:Below w.heap.size w w'){M:Nat->Prop}(hM:∀ k,M k->p k\/w.heap.size<=k):SlR R sz (bp w' M) w'.heap.size v xs:=by
 have h1:=h (λk=>M k/\k<w.heap.size) (λk e=>(hM k e.1).resolve_right (by omega));refine (h1.keep hk ?_).more hm hb.size;refine⟨hb.os,hb.tape,hb.output,by rw[gH,gH]; exact hb.size,λk hk=>?_⟩;by_cases hm:M k
 ·have h1:k<w'.heap.size:=lQ hk hb.size;rw[vr hm,vr (M:=λk=>M k/\k<w.heap.size) ⟨hm,hk⟩];simp[hk,h1]
 ·rw[j9 hm,j9 (M:=λk=>M k/\k<w.heap.size) (λe=>hm e.1)];exact hb.block k hk
theorem M5{α:Type}{R:World->Nat->List Value->α->Prop}{sz cb:Nat}{p:Nat->Prop}{w w':World}{v:Value}{xs:List α}(h:∀ M:Nat->Prop,(∀ k,M k->p k)->SlR R sz (bp w M) w.heap.size v xs)(hk:dK R)(hs:fu R)(hm:dV R)(hc:p cb)(ht:Turned cb w w'):SlR R sz w' w'.heap.size v xs:=by
 have h1:=h (λk=>k=cb) (λk e=>e ▸ hc);have h2:=Leaves'.slr (M:=λk=>k=cb) (M':=λk=>k=cb) hk hs hm (w':=w') ⟨ht.os,ht.tape,ht.output,Nat.le_of_eq ht.size.symm,λi _ hi=>⟨hi,ht.block i hi⟩⟩ h1;exact (h2.sans hs (M':=λ_=>False) (λ_ e=>e.elim)).all hs
theorem fP.later{α:Type}{R:World->Nat->List Value->α->Prop}{sz n:Nat}{w w':World}{v:Value}{xs:List α}(h:fP R sz 0 n w v xs)(hk:dK R)(hm:dV R)(hb:Below w.heap.size w w'){M:Nat->Prop}(hM:∀ k,M k->k<n\/w.heap.size<=k):SlR R sz (bp w' M) w'.heap.size v xs:=
 Mr h hk hm hb (λk e=>(hM k e).imp (λe=>⟨jQ _,e⟩) id)
theorem fP.keep{α:Type}{R:World->Nat->List Value->α->Prop}{sz n:Nat}{w w':World}{v:Value}{xs:List α}(h:fP R sz 0 n w v xs)(hk:dK R)(hm:dV R)(hb:Below w.heap.size w w'):fP R sz 0 n w' v xs:=λ_ hM=>h.later hk hm hb (λk e=>.inl (hM k e).2)
theorem fP.past{α:Type}{R:World->Nat->List Value->α->Prop}{sz n cb:Nat}{w w':World}{v:Value}{xs:List α}(h:fP R sz 0 n w v xs)(hk:dK R)(hs:fu R)(hm:dV R)(hc:cb<n)(ht:Turned cb w w'):SlR R sz w' w'.heap.size v xs:=
 M5 h hk hs hm ⟨jQ _,hc⟩ ht
theorem fP.nil{α:Type}(R:World->Nat->List Value->α->Prop)(sz n:Nat)(w:World):fP R sz 0 n w (.slice none 0 0) []:=λ_ _=>mH _ _ _ _
theorem fP.form{α:Type}{R:World->Nat->List Value->α->Prop}{sz n:Nat}{w:World}{v:Value}{xs:List α}(h:fP R sz 0 n w v xs):∃ A c,v = .slice A xs.length c:=by
 obtain⟨A,c,rfl,_⟩:=ag (h (λ_=>False) (λ_ e=>e.elim));exact⟨_,_,rfl⟩
end
namespace Np
theorem GJ{l:List Copy}{t:Int}{c:Copy} : c∈bS l t↔c∈l/\c.frm<=t/\t<c.til:=by
 unfold bS;rw[List.mem_filter];simp
theorem U6{h:Hist}(v:VHist h)(t:Int):VWorld (jo h t):=by
 refine⟨v.hosts,v.root,λp hp=>?_,?_⟩
 ·obtain⟨c,hc,rfl⟩:=List.mem_map.1 hp
  have:=v.each c (GJ.1 hc).1
  exact⟨this.host,this.zone⟩
 ·show ((bS h.copies t).map eV).Pairwise _;rw[List.pairwise_map]
  have:(bS h.copies t).Pairwise λc d=>¬ jN c d:=v.apart.sublist List.filter_sublist
  refine this.imp_of_mem λ{c d} hc hd hn=>λ⟨h1,h2⟩=>hn ?_;obtain⟨_,c1,c2⟩:=GJ.1 hc;obtain⟨_,d1,d2⟩:=GJ.1 hd;exact⟨h1,h2,by omega,by omega⟩
theorem Dv{l:List Copy}{a:List UInt8} : a∈apexes l↔∃ c∈l,c.zone.apex=a:=by
 unfold apexes;rw[(GE _).mem_iff,vu,List.mem_map]
theorem VP{l m:List Copy}(h:∀ a,(∃ c∈l,c.zone.apex=a)↔∃ c∈m,c.zone.apex=a):apexes l=apexes m:=
 Ga fH _ _ (Gl (x9 _)) (Gl (x9 _)) λa=>Dv.trans ((h a).trans Dv.symm)
theorem GQ(l:List Copy):(l.map (·.zone.apex)).foldl eZ []=apexes l:=by
 have key:∀ (l o:List (List UInt8)),o.Pairwise (λa b=>aM a b<0)->(l.foldl eZ o).Pairwise (λa b=>aM a b<0)/\∀ y,y∈l.foldl eZ o↔y∈o\/y∈l:=by
  intro l
  induction l with
  | nil=>exact λo ho=>⟨ho,λy=>by simp⟩
  | cons a l ih=>
   intro o ho;obtain⟨h1,h2⟩:=O0 o a ho;obtain⟨h3,h4⟩:=ih _ h1;exact⟨h3,λy=>by rw[List.foldl_cons,h4,h2,List.mem_cons,or_assoc]⟩
 obtain⟨h1,h2⟩:=key (l.map (·.zone.apex)) [] List.Pairwise.nil;refine Ga fH _ _ h1 (Gl (x9 _)) λa=>?_;rw[h2,Dv,List.mem_map];simp
def yv(a:Int)(c:Copy):List Copy:=if c.frm<a/\a<c.til then [⟨c.host,c.frm,a,c.zone⟩,⟨c.host,a,c.til,c.zone⟩] else [c]
def vJ(l:List Copy)(k:Nat)(a:Int):List Copy:=
 match l[k]? with
 | none=>l
 | some c=>l.take k++yv a c++l.drop (k+1)
theorem WV{a:Int}{c d:Copy}(h:d∈yv a c):d.host=c.host/\d.zone=c.zone/\c.frm<=d.frm/\d.til<=c.til/\(c.frm<c.til->d.frm<d.til):=by
 unfold yv at h;split at h
 ·rename_i hc;simp only[List.mem_cons,Qh,or_false] at h;rcases h with rfl | rfl
  ·exact⟨rfl,rfl,Int.le_refl _,Int.le_of_lt hc.2,λ_=>hc.1⟩
  ·exact⟨rfl,rfl,Int.le_of_lt hc.1,Int.le_refl _,λ_=>hc.2⟩
 ·rw[List.mem_singleton] at h;subst h;exact⟨rfl,rfl,Int.le_refl _,Int.le_refl _,id⟩
theorem GG(a b:List Copy)(t:Int):bS (a++b) t=bS a t++bS b t:=List.filter_append _ _
theorem Ye{l:List Copy}{k:Nat}{c:Copy}(h:l[k]?=some c):l=l.take k ++ [c]++l.drop (k+1):=by
 obtain⟨hk,rfl⟩:=cQ.1 h;rw[List.append_assoc,List.singleton_append,List.getElem_cons_drop,List.take_append_drop]
theorem Oi(l:List Copy)(k:Nat)(a:Int):vJ l k a=l\/∃ p c q,l=p ++ [c]++q/\vJ l k a=p++yv a c++q:=by
 unfold vJ
 cases h:l[k]? with
 | none=>exact .inl rfl
 | some c=>exact .inr ⟨_,c,_,Ye h,rfl⟩
theorem Pa{l:List Copy}{k:Nat}{a:Int}{d:Copy}(h:d∈vJ l k a):∃ c∈l,d.host=c.host/\d.zone=c.zone/\c.frm<=d.frm/\d.til<=c.til/\(c.frm<c.til->d.frm<d.til):=by
 rcases Oi l k a with e | ⟨p,c,q,e1,e2⟩
 ·rw[e] at h;exact⟨d,h,rfl,rfl,Int.le_refl _,Int.le_refl _,id⟩
 ·rw[e2] at h;rcases List.mem_append.1 h with h | h
  ·rcases List.mem_append.1 h with h | h
   ·exact⟨d,by rw[e1]; simp[h],rfl,rfl,Int.le_refl _,Int.le_refl _,id⟩
   ·exact⟨c,by rw[e1]; simp,WV h⟩
  ·exact⟨d,by rw[e1]; simp[h],rfl,rfl,Int.le_refl _,Int.le_refl _,id⟩
theorem OP{l:List Copy}(hl:kR l){P:Int->Zone->Prop} : (∃ c∈l,P c.host c.zone)↔∃ t,∃ c∈l,P c.host c.zone/\c.frm<=t/\t<c.til:=
 ⟨λ⟨c,h1,h2⟩=>⟨c.frm,c,h1,h2,Int.le_refl _,hl c h1⟩,λ⟨_,c,h1,h2,_⟩=>⟨c,h1,h2⟩⟩
def yr(l m:List Copy):Prop:=∀ (P:Int->Zone->Prop) (t:Int),(∃ d∈l,P d.host d.zone/\d.frm<=t/\t<d.til)↔∃ c∈m,P c.host c.zone/\c.frm<=t/\t<c.til
theorem yr.zone{l m:List Copy}(h:yr l m)(hl:kR l)(hm:kR m){P:Int->Zone->Prop} : (∃ c∈l,P c.host c.zone)↔∃ c∈m,P c.host c.zone:=by
 rw[OP hl,OP hm];exact⟨λ⟨t,ht⟩=>⟨t,(h P t).1 ht⟩,λ⟨t,ht⟩=>⟨t,(h P t).2 ht⟩⟩
theorem yr.apexes{l m:List Copy}(h:yr l m)(hl:kR l)(hm:kR m):apexes l=apexes m:=
 VP λa=>h.zone hl hm (P:=λ_ z=>z.apex=a)
theorem yr.fresh{l m:List Copy}(h:yr l m)(hl:kR l)(hm:kR m)(zone:List UInt8)(s:Signed):bq (ep (dJ l zone) s)=bq (ep (dJ m zone) s):=by
 refine Ns (x8 hl) (x8 hm) λt=>G9.trans (Iff.trans ?_ G9.symm)
 have:=h (λ_ z=>z.apex=zone/\s∈z.sets) t
 simpa only[and_assoc] using this
theorem G5(a b:List Copy)(zone:List UInt8):dJ (a++b) zone=dJ a zone++dJ b zone:=by
 unfold dJ rI;rw[List.filter_append,List.flatMap_append]
theorem ZO(l:List Copy)(k:Nat)(a:Int):(vJ l k a).length<=l.length+1:=by
 rcases Oi l k a with e | ⟨p,c,q,e1,e2⟩
 ·rw[e]; omega
 ·rw[e2,e1]
  have:(yv a c).length<=2:=by unfold yv; split <;> simp
  simp only[List.length_append,List.length_singleton];omega
def withC(h:Hist)(l:List Copy):Hist:=⟨h.hosts,l,h.anchor,h.hints,h.drift,h.stop⟩
def dG(l:List Copy)(u:Int):List Copy:=(l.map λc=>⟨c.host,c.frm,min c.til u,c.zone⟩).filter λc=>decide (c.frm<c.til)
theorem vm{l:List Copy}{u:Int}{d:Copy} : d∈dG l u↔∃ c∈l,d=⟨c.host,c.frm,min c.til u,c.zone⟩/\c.frm<min c.til u:=by
 unfold dG;rw[List.mem_filter,List.mem_map];constructor
 ·rintro⟨⟨c,hc,rfl⟩,h⟩;exact⟨c,hc,rfl,by simpa using h⟩
 ·rintro⟨c,hc,rfl,h⟩;exact⟨⟨c,hc,rfl⟩,by simpa using h⟩
theorem V7(l:List Copy)(u:Int):kR (dG l u):=λd hd=>by
 obtain⟨c,_,rfl,h⟩:=vm.1 hd;exact h
theorem MD{h:Hist}(v:VHist h)(u:Int):VHist (withC h (dG h.copies u)):=by
 refine⟨v.stop,v.drift,v.hosts,v.root,λd hd=>?_,?_⟩
 ·obtain⟨c,hc,rfl,ab⟩:=vm.1 hd;obtain⟨a1,a2,a3⟩:=v.each c hc;exact⟨a1,⟨a2.1,ab,by have:=a2.2.2; show min c.til u<=h.stop; omega⟩,a3⟩
 ·show (dG h.copies u).Pairwise _;unfold dG;refine List.Pairwise.sublist List.filter_sublist ?_;rw[List.pairwise_map];refine v.apart.imp λhn=>λ⟨h1,h2,h3,h4⟩=>hn ⟨h1,h2,?_,?_⟩
  ·dsimp only at h3; omega
  ·dsimp only at h4; omega
theorem NP(l:List Copy)(u:Int):(dG l u).length<=l.length:=by
 unfold dG;exact yQ (List.length_filter_le _ _) (by rw[List.length_map]; exact bQ _)
theorem Uu{l:List Copy}{t u:Int}(h:t<u):(bS (dG l u) t).map eV=(bS l t).map eV:=by
 unfold bS dG;rw[List.filter_filter,List.filter_map,List.map_map];have e:(eV∘λc:Copy=>(⟨c.host,c.frm,min c.til u,c.zone⟩:Copy))=eV:=rfl;rw[e];congr 1;refine List.filter_congr λc _=>?_;rw[Bool.eq_iff_iff];simp only[Function.comp_apply,Bool.and_eq_true,Qa];omega
theorem Xn{l:List Copy}{t u:Int}(h:t<u)(P:Int->Zone->Prop):(∃ d∈dG l u,P d.host d.zone/\d.frm<=t/\t<d.til)↔∃ c∈l,P c.host c.zone/\c.frm<=t/\t<c.til:=by
 constructor
 ·rintro⟨d,hd,hp,h1,h2⟩;obtain⟨c,hc,rfl,_⟩:=vm.1 hd;exact⟨c,hc,hp,h1,by dsimp only at h2; omega⟩
 ·rintro⟨c,hc,hp,h1,h2⟩;exact⟨_,vm.2 ⟨c,hc,rfl,by omega⟩,hp,h1,by dsimp only; omega⟩
theorem V6{l:List Copy}{u:Int}{P:Zone->Prop}(h:∃ d∈dG l u,P d.zone):∃ c∈l,P c.zone:=by
 obtain⟨d,hd,hp⟩:=h;obtain⟨c,hc,rfl,_⟩:=vm.1 hd;exact⟨c,hc,hp⟩
theorem XA{l:List Copy}(hl:kR l){zone:List UInt8}{s:Signed}{t:Int} : (∃ x∈pub l zone,x.signed=s/\inS x.fresh t)↔∃ c∈l,(c.zone.apex=zone/\s∈c.zone.sets)/\c.frm<=t/\t<c.til:=by
 constructor
 ·rintro⟨x,hx,rfl,ht⟩;obtain⟨_,_,_,_,h5⟩:=H7 hl hx;obtain⟨c,hc,h1,h2,h3⟩:=(h5 t).1 ht;exact⟨c,hc,⟨h1,h2⟩,h3⟩
 ·rintro⟨c,hc,⟨h1,h2⟩,h3⟩;obtain⟨x,hx,rfl⟩:=Zm (zone:=zone) (s:=s) ⟨c,hc,h1,h2⟩;obtain⟨_,_,_,_,h5⟩:=H7 hl hx;exact⟨x,hx,rfl,(h5 t).2 ⟨c,hc,h1,h2,h3⟩⟩
theorem Vd{l:List Copy}(hl:kR l){t u:Int}(h:t<u){zone:List UInt8}{x:Held}(hx:x∈pub l zone):inS x.fresh t↔∃ y∈pub (dG l u) zone,y.signed=x.signed/\inS y.fresh t:=by
 rw[XA (V7 l u),Xn h (λ_ z=>z.apex=zone/\x.signed∈z.sets)];obtain⟨_,_,_,_,h5⟩:=H7 hl hx;rw[h5];simp only[and_assoc]
def oM(n:Int):Signed:=⟨⟨[120],4,60,[⟨[],n,9⟩]⟩,[]⟩
def rN:Signed:=⟨⟨[120],2,60,[⟨[97,46,110,115],0,0⟩]⟩,[]⟩
def dC(n:Int):Zone:=⟨[120],[rN,oM n]⟩
def pB:List Copy:=[⟨0,0,10,dC 1⟩,⟨0,10,30,dC 2⟩,⟨1,5,20,dC 1⟩]
def DZ:List Host:=[⟨[97,46,110,115],1,0⟩,⟨[98,46,110,115],2,0⟩]
def Hr:DSet:=⟨[46],6,60,[⟨[],1,1⟩]⟩
def exH:Hist:=⟨DZ,pB,Hr,[1],0,40⟩
def yB:Hist:=⟨DZ,[⟨0,0,10,dC 1⟩,⟨0,9,30,dC 2⟩,⟨1,5,20,dC 1⟩],Hr,[1],0,40⟩
theorem Xi(n:Int)(h:n=1\/n=2):fm (dC n)=true:=by
 rcases h with rfl | rfl <;> decide
theorem GU(n:Int)(h:n=1\/n=2):VZone (dC n):=by
 have hb:ef (dC n) = [[],[]]:=by rcases h with rfl | rfl <;> decide
 refine⟨Xi n h,by simp[dC],⟨oM n,by simp[dC],rfl,rfl⟩,⟨rN,by simp[dC],rfl,rfl⟩,λx hx=>?_,λi hi ht=>?_,λi hi ht=>?_,λi x b hx du=>?_,λi x b hx du=>?_,λx hx=>?_⟩
 ·simp only[dC,List.mem_cons,Qh,or_false] at hx;rcases hx with rfl | rfl <;> rfl
 ·match i,hi with
  | 0,_=>exact absurd ht (by simp[dC,oM])
  | i+1,hi=>exact absurd hi (by simp[dC])
 ·match i,hi with
  | 0,_=>exact absurd ht (by simp[dC,rN])
  | i+1,hi=>exact absurd hi (by simp[dC])
 ·rw[hb] at du
  match i,hx,du with
  | 0,hx,du=>simp[dC] at hx du; subst hx; subst du; simp[lC,rN]
  | 1,hx,du=>simp[dC] at hx du; subst hx; subst du; simp[lC,oM]
  | i+2,hx,du=>simp[dC] at hx
 ·rw[hb] at du
  match i,hx,du with
  | 0,hx,du=>simp at du; subst du; intro h; exact absurd rfl h
  | 1,hx,du=>simp at du; subst du; intro h; exact absurd rfl h
  | i+2,hx,du=>simp[dC] at hx
 ·simp only[dC,List.mem_cons,Qh,or_false] at hx;rcases hx with rfl | rfl
  ·exact⟨by decide,λi g hg=>by simp[rN] at hg⟩
  ·exact⟨by simp[oM],λi g hg=>by simp[oM] at hg⟩
theorem Y6:VHosts DZ:=by
 refine⟨by decide,λh hh=>?_,by decide⟩;simp only[DZ,List.mem_cons,Qh,or_false] at hh;rcases hh with rfl | rfl
 ·exact⟨by decide,by decide,by decide,by decide⟩
 ·exact⟨by decide,by decide,by decide,by decide⟩
theorem ZK:VRoot Hr [1]:=by
 refine⟨by decide,rfl,rfl,by decide,λn hn=>?_⟩;simp only[List.mem_cons,Qh,or_false] at hn;subst hn; decide
theorem ym:VHist exH:=by
 refine⟨by decide,by decide,Y6,ZK,λc hc=>?_,?_⟩
 ·simp only[exH,pB,List.mem_cons,Qh,or_false] at hc;rcases hc with rfl | rfl | rfl
  ·exact⟨by decide,by decide,GU 1 (.inl rfl)⟩
  ·exact⟨by decide,by decide,GU 2 (.inr rfl)⟩
  ·exact⟨by decide,by decide,GU 1 (.inl rfl)⟩
 ·simp only[exH,pB,List.pairwise_cons,List.mem_cons,Qh,or_false,jN,dC];refine⟨?_,?_,?_,?_⟩
  ·rintro c (rfl | rfl) ⟨h1,h2,h3,h4⟩
   ·revert h4; decide
   ·revert h1; decide
  ·rintro c rfl ⟨h1,h2,h3,h4⟩;revert h1; decide
  ·intro c hc; cases hc
  ·exact List.Pairwise.nil
theorem aaJ:¬ VHist yB:=λh=>by
 have:=(List.pairwise_cons.1 h.apart).1 ⟨0,9,30,dC 2⟩ (by simp)
 exact this ⟨rfl,rfl,by decide,by decide⟩
theorem Pt:(jo exH 10).zones = [⟨0,dC 2⟩,⟨1,dC 1⟩]:=by rfl
theorem Y7:(jo exH 30).zones = []:=by rfl
theorem Y5:apexes pB = [[120]]:=by
 rw[<-GQ]; decide
theorem DO{l:List Span}{a b:Int}(hf:∀ s∈l,s.frm<s.til)(h:a<b)(ht:∀ t,(a<=t/\t<b)↔inS l t):bq l = [⟨a,b⟩]:=by
 refine (DP hf ⟨λs hs=>?_,List.pairwise_singleton _ _⟩ λt=>?_).symm
 ·rw[List.mem_singleton] at hs; subst hs; exact h
 ·rw[<-ht t];simp[inS]
theorem X7:qy pB [120] 1 = [⟨5,20⟩]:=by
 show bq [⟨5,20⟩]=_;exact DO (by simp) (by decide) (by simp[inS])
theorem aaZ:pub pB [120] = [⟨[120],rN,[⟨0,30⟩],[]⟩,⟨[120],oM 1,[⟨0,20⟩],[]⟩,⟨[120],oM 2,[⟨10,30⟩],[]⟩]:=by
 have h1:bq [⟨0,10⟩,⟨10,30⟩,⟨5,20⟩] = [⟨0,30⟩]:=DO (by simp) (by decide) (λt=>by simp[inS]; omega);have h2:bq [⟨0,10⟩,⟨5,20⟩] = [⟨0,20⟩]:=DO (by simp) (by decide) (λt=>by simp[inS]; omega);have h3:bq [⟨10,30⟩] = [⟨10,30⟩]:=DO (by simp) (by decide) (λt=>by simp[inS]);rw[<-h1,<-h2,<-h3];rfl
theorem ZN:rI pB [121] = []:=by rfl
end Np
end Go.Proofs.YtbfbobfbgabjiaaGreatDoor
