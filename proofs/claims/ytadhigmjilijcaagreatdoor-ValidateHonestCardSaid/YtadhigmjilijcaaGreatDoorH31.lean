/- No condition. -/
import Derived.Test.YtadhigmjilijcaaGreatDoorH25
import Derived.Test.YtadhigmjilijcaaGreatDoorH27
import Derived.Test.YtadhigmjilijcaaGreatDoorH28
import Derived.Test.YtadhigmjilijcaaGreatDoorH29
import Derived.Test.YtadhigmjilijcaaGreatDoorH30
set_option linter.all false
set_option maxRecDepth 100000
set_option maxHeartbeats 8000000
namespace Go.Proofs.YtadhigmjilijcaaGreatDoor
open Go.Proofs.Tryz
section
open Go.RowKit
def tJ:List FuncId:=[71,72,73,74,75,76,77]
theorem bFX{k:VwS}(hk:VhOk k){j:Nat}{f:FuncId}(hj:tJ[j]?=some f) :
 (∀ args w,(callFunc f args).run prog w = .ok (.enter f args) w)/\∀ (wd:ByteArray) (w:World),WdH k wd->VwIn k wd w->Calls prog f #[.pointer (some ⟨k.V,0,none⟩)] w (rF k w):=by
 match j,hj with
 | 0,hj=>cases hj;exact⟨enters_of func71 (by kernel_rfl) rfl,λwd w bp h=>bqY k hk wd bp w h⟩
 | 1,hj=>cases hj;exact⟨enters_of func72 (by kernel_rfl) rfl,λwd w bp h=>arZ k hk wd bp w h⟩
 | 2,hj=>cases hj;exact⟨enters_of func73 (by kernel_rfl) rfl,λwd w bp h=>ahX k hk wd bp w h⟩
 | 3,hj=>cases hj;exact⟨enters_of func74 (by kernel_rfl) rfl,λwd w bp h=>bfX k hk wd bp w h⟩
 | 4,hj=>cases hj;exact⟨enters_of func75 (by kernel_rfl) rfl,λwd w bp h=>bMY k hk wd bp w h⟩
 | 5,hj=>cases hj;exact⟨enters_of func76 (by kernel_rfl) rfl,λwd w bp h=>bMK k hk wd bp w h⟩
 | 6,hj=>cases hj;exact⟨enters_of func77 (by kernel_rfl) rfl,λwd w bp h=>bNZ k hk wd bp w h⟩
 | j+7,hj=>simp[tJ] at hj
def aeZ(xs:List Np.Signed)(ap nm:List UInt8)(ty:Int)(w:World)(e:Ending)(w':World):Prop:=
 ∃ (kd:Int) (A':Option Addr) (n' m':Nat) (cs:ByteArray) (l:List Np.Signed),e = .returned (.tuple #[.agg #[.int .i64 kd,.slice A' n' m',.string cs],.int .i64 0])/\cs.size<=140737488355328/\Np.vM xs ap nm ty kd cs.data.toList l/\SlR az 5 w' w'.heap.size (.slice A' n' m') l/\Below w.heap.size w w'
theorem bcJ(ap:ByteArray)(jz:ap.size<=140737488355328)(A:Option Addr)(n c:Nat)(xs:List Np.Signed)(hn:xs.length=n)(hz:Np.VZone ⟨ap.data.toList,xs⟩)(CM:∀ x∈xs,x.set.data.length<=1000/\x.sigs.length<=1000)(nm:ByteArray)(fJ:nm.size<=140737488355328)(hv:Np.ai nm.data.toList=true)(hu:Np.aW nm.data.toList ap.data.toList=true)(ty:Int)(caK:1<=ty)(Gh:ty<=8)
 (w:World) (hR:cr w w.heap.size) (hx:SlR az 5 w w.heap.size (.slice A n c) xs) :
 Calls prog 28 #[.agg #[.string ap,.slice A n c],.agg #[.string nm,.int .i64 ty]] w
  (aeZ xs ap.data.toList nm.data.toList ty w):=by
 have HN:=jq hn;have HZ:=jq hz;have HF:=jq CM;have HV:=jq hv;have HU:=jq hu;have eS:=jq hR;have HX:=jq hx;have nh:=jq jz;have rq:=jq fJ;have oz:n<=20000:=by rw[<-hn];exact hz.few
 clear hn hz CM hv hu hR hx jz fJ;obtain⟨X,hX⟩:=aaK w.heap.size;obtain⟨wa,bo⟩:=aaK (((w.alloc (.cells #[.string ap,.slice A n c] 66)).alloc (.cells #[.string nm,.int .i64 ty] 27)).alloc (.cells #[.int .i64 0,.slice none 0 0,.string ⟨#[]⟩] 29));have jK:wa.heap.size=X+3:=by rw[<-bo];simp[hX]
 have ul:Hid (Below X w wa):=jq (by rw[<-bo,<-hX];exact ((blAl).alloc (by simp) _).alloc (by simp;omega) _);have lB:Hid (mr wa X [.string ap,.slice A n c]):=jq (by
  rw[<-bo,<-hX];exact ((jf [.string ap,.slice A n c] 66 rfl rfl).keep (blAl) (by simp)).keep (blAl) (by simp;omega))
 have cN:Hid (mr wa (X+1) [.string nm,.int .i64 ty]):=jq (by
  rw[<-bo,<-hX]
  have:=jf (w:=w.alloc (.cells #[.string ap,.slice A n c] 66)) (X:=w.heap.size+1) [.string nm,.int .i64 ty] 27 (by simp) rfl
  exact this.keep (blAl) (by simp))
 have IX:Hid (wa.heap[X+2]?=some (.cells #[.int .i64 0,.slice none 0 0,.string ⟨#[]⟩] 29 (0,0))):=jq (by
  rw[<-bo,<-hX]
  have:=heap_alloc_new ((w.alloc (.cells #[.string ap,.slice A n c] 66)).alloc (.cells #[.string nm,.int .i64 ty] 27)) (.cells #[.int .i64 0,.slice none 0 0,.string ⟨#[]⟩] 29)
  simpa using this)
 have j0:=lB.out 0 _ rfl;have j1:=lB.out 1 _ rfl;have i0:=cN.out 0 _ rfl;have i1:=cN.out 1 _ rfl;have t1:¬ ty<1:=by omega
 have t2:decide (ty<1)=false:=tQ t1;have t3:¬ 8<ty:=by omega
 have t4:decide (8<ty)=false:=tQ t3;go_enter func28,ntmps28;go_wp2_with fail
 try rw[bo]
 try clear bo
 refine (apX ap nh.out A n c xs HN.out HZ.out nm rq.out HV.out HU.out wa (by have:=eS.out.keep (by rw[hX];exact ul.out);exact this.more (by omega)) (HX.out.later ax aK (by rw[hX];exact ul.out))).mono ?_;rintro e w2 ⟨p,b,rfl,ej,hp,SB,hb⟩;have us:=jq ej;have HP:=jq hp;have NX:=jq SB;have bL:=hb.size;have am:=aaZ ul hb;have Hq:=jq (lB.out.keep hb (by omega));have Hr:=jq (cN.out.keep hb (by omega));have fO:=jq ((hb.block (X+2) (by omega)).trans IX.out);clear hb hp SB ej;replace j0:=Hq.out 0 _ rfl;replace j1:=Hq.out 1 _ rfl;replace i0:=Hr.out 0 _ rfl;replace i1:=Hr.out 1 _ rfl;go_wp2_with fail;refine (bfZ ap A n c xs HN.out oz (Md (Np.VZone.inOrder HZ.out.right)) nm ty w2 (HX.out.later ax aK (by rw[hX];exact am.out))).mono ?_;rintro e w3 ⟨V,r,kvs,rfl,dl,jH,zL,hm,xo,hb⟩;have mh:=hb.size;have Fz:V<w3.heap.size:=(eQ.1 xo).1;have Yl:=jq zL;have HM:=jq hm;have Wk:=jq xo;have aw:=aaZ am hb;have bRX:=jq (Hq.out.keep hb (by omega));have bRY:=jq (Hr.out.keep hb (by omega));have ju:=jq ((hb.block (X+2) (by omega)).trans fO.out);have hXr:X+3<=r:=by omega
 have Lj:=fD [_,_,_,_,_,_,_,_] xo;have v5:=Lj 5 _ rfl;have v6:=Lj 6 _ rfl;have fV:∀ i,w3.frozen? ⟨V,i,none⟩=false:=λi=>by simp[World.frozen?,xo]
 clear hb zL hm xo Lj j0 j1 i0 i1;go_upto_region 10 with fail
 obtain⟨w5,aS⟩:=aaK ((w3.setCell ⟨V,5,none⟩ (.string p)).setCell ⟨V,6,none⟩ (.bool b));rw[aS];have aO:Below V w3 w5:=by rw[<-aS];exact ((vQ V w3).setCell (bQ _) _).setCell (bQ _) _
 have qU:=aO.size;have bx:=aaZ aw aO;have y9:=jq ((aO.block (X+2) (by omega)).trans ju.out);obtain⟨k,hk⟩:∃ k:VwS,k=⟨V,r,X,ap,A,n,c,xs,nm,ty,p,b,kvs⟩:=⟨_,rfl⟩;have HK:Hid (VwOk k):=jq (by
  subst hk;exact⟨HN.out,oz,HF.out,λx hx=>AB ((Np.AD HZ.out).2 x hx),(Np.AD HZ.out).1,nh.out,HV.out,rq.out,HU.out,Yl.out,λh=>⟨(HP.out h).1,(HP.out h).2.2.1⟩,by
   cases b with
   | true=>exact (HP.out rfl).2.1
   | false=>exact us.out,by show X<=r;omega,jH⟩)
 have Bj:Hid (VwIn k ⟨#[]⟩ w5):=jq (by
  subst hk;refine⟨.inl rfl,by decide,?_,HM.out.keep aO jH,?_⟩
  ·rw[<-aS];simp[World.setCell,Array.getElem?_modify,Wk.out]
  ·rw[<-hX];exact HX.out.keep ax (by rw[hX];exact bx.out))
 have oP:Hid (VhOk k):=jq (by
  have bL:=Np.VF HZ.out;have hex:Np.exN xs ap.data.toList=true:=Np.awY (vl (Np.AD HZ.out).1) (by
   obtain⟨x,hx,_⟩:=HZ.out.start;intro e;have hx':x∈xs:=hx;rw[e] at hx'
   cases hx') (λx hx=>by have h:=bL.2 x hx;unfold Np.bA at h;simp only[Bool.and_eq_true] at h;exact h.2.2)
  have fe:=HK.out;subst hk;exact⟨fe,hex,λh=>⟨(HP.out h).2.2.2.1,(HP.out h).2.2.2.2.1,(HP.out h).2.2.2.2.2⟩⟩)
 have rp:Hid (k.xs=xs/\k.ap=ap/\k.nm=nm/\k.ty=ty):=jq (by subst hk;exact⟨rfl,rfl,rfl,rfl⟩);have Za:Hid (∀ (j:Nat) (f:FuncId),tJ[j]?=some f->(∀ args w,(callFunc f args).run prog w = .ok (.enter f args) w)/\∀ (wd:ByteArray) (w:World),WdH k wd->VwIn k wd w->Calls prog f #[.pointer (some ⟨V,0,none⟩)] w (rF k w)):=jq (λj f hj=>by
  have:=bFX oP.out hj
  rw[hk] at this |-;exact this)
 have Sb:k.V=V:=by rw[hk]
 have fz:=jq Sb;clear aS aO v5 v6 fV hk Sb;obtain⟨T,hT⟩:=aaK w5.heap.size;obtain⟨w6,cS⟩:=aaK (w5.alloc (.cells #[.func (.func 71) #[.pointer (some ⟨V,0,none⟩)] #[],.func (.func 72) #[.pointer (some ⟨V,0,none⟩)] #[],.func (.func 73) #[.pointer (some ⟨V,0,none⟩)] #[],.func (.func 74) #[.pointer (some ⟨V,0,none⟩)] #[],.func (.func 75) #[.pointer (some ⟨V,0,none⟩)] #[],.func (.func 76) #[.pointer (some ⟨V,0,none⟩)] #[],.func (.func 77) #[.pointer (some ⟨V,0,none⟩)] #[]] 122));have bE:Below w5.heap.size w5 w6:=by rw[<-cS];exact blAl
 have hTl:T<w6.heap.size:=by rw[<-cS];simp[hT]
 have Y7:Hid (mr w6 T (tJ.map λf=>.func (.func f) #[.pointer (some ⟨V,0,none⟩)] #[])):=jq (jf (tJ.map λf=>.func (.func f) #[.pointer (some ⟨V,0,none⟩)] #[]) _ hT cS);have bH:=aaZ bx bE;have jT:=jq ((bE.block (X+2) (by omega)).trans y9.out);have Xw:=jq (Bj.out.keep HK.out bE Bj.out.lt);have hVT:V<T:=by have:=Bj.out.lt;rw[fz.out] at this;omega
 have px:=bE.size;clear bE;go_wp2_with fail
 try rw[cS]
 clear cS;go_loopw [67] (λix wr=>∃ j:Nat,j<=7/\ix = .int .i64 j/\w6.heap.size<=wr.heap.size/\Hid (Below V w6 wr)/\Hid (mr wr T (tJ.map λf=>.func (.func f) #[.pointer (some ⟨V,0,none⟩)] #[]))/\∃ wd,Hid (WdH k wd)/\Hid (VwIn k wd wr)) (λix _=>7 - (intOf ix).toNat)
 case atStart=>exact⟨0,by omega,rfl,bQ _,jq (vQ _ _),Y7,_,jq (.inl rfl),Xw⟩
 case round=>
  obtain⟨j,hj,rfl,vz,eY,Ow,wd,jd,yN⟩:=hrel;obtain⟨ws,rfl⟩:=aaX wr;have Nm:=aaZ bH eY.out;have Oq:=jq ((eY.out.block (X+2) (by omega)).trans jT.out);by_cases ag:j<7
  ·obtain⟨f,hf⟩:∃ f,tJ[j]?=some f:=⟨_,aQ (by simpa [tJ] using ag)⟩;obtain⟨eg,bw⟩:=Za.out j f hf;have HC:=jq (bw wd ws jd.out yN.out);have cT:=Ow.out j (.func (.func f) #[.pointer (some ⟨V,0,none⟩)] #[]) (by rw[List.getElem?_map,hf];rfl);have rS:=kNN j;have uX:(j:Int)<7:=by omega
   clear hf bw;go_wp2_with fail;refine HC.out.mono ?_;rintro e w7 ⟨kd,A',n',m',cs,d,la,rfl,hcs,hc,har,hg,wd',Tc,hi⟩;have HWE:=jq Tc;have Eg:=jq hcs;have gZ:=jq hc;have iG:=jq har;clear Tc hcs hc har;rw[fz.out] at hg;have hVs:V<=ws.heap.size:=by omega
   have hb:=bgX hg hVs;have qV:=hg.size;have NF:=jq hi;have cw:=jq (eY.out.trans hb);have Y8:Hid (mr w7 T (tJ.map λf=>.func (.func f) #[.pointer (some ⟨V,0,none⟩)] #[])):=jq (λq v hq=>(iQ (a:=⟨T,q,none⟩) (hg.block T (by omega) (λe=>by have:=Option.some.inj e;omega))).trans (Ow.out q v hq));have wE:=jq ((hb.block (X+2) (by omega)).trans Oq.out);have Wo:=aaZ Nm hb;clear hb hg hi cT eg;obtain⟨G,hG⟩:=aaK w7.heap.size;obtain⟨w8,dX⟩:=aaK (w7.alloc (.cells #[.int .i64 kd,.slice A' n' m',.string cs] 29));have cA:Below w7.heap.size w7 w8:=by rw[<-dX];exact blAl
   have Ig:=jq (jf [.int .i64 kd,.slice A' n' m',.string cs] 29 hG dX);have Xx:=jq (NF.out.keep HK.out cA NF.out.lt);have dZ:=aaZ cw cA;have Y9:=jq (Y8.out.keep cA (by omega));have IN:=jq ((cA.block (X+2) (by omega)).trans wE.out);have Wp:=aaZ Wo cA;have su:=cA.size;have V4:=jq (iG.out.below ax eB aK cA);clear cA;go_upto_region 15 with fail
   clear dX
   cases d with
   | true=>
    have wG:=IN;have yG:=Wp;have kR:=fD [_,_,_] wG.out;have kR0:=kR 0 _ rfl;have kR1:=kR 1 _ rfl;have kR2:=kR 2 _ rfl;have fR:∀ q,w8.frozen? ⟨X+2,q,none⟩=false:=λq=>by simp[World.frozen?,wG.out]
    have g0:=Ig.out 0 _ rfl;have g1:=Ig.out 1 _ rfl;have g2:=Ig.out 2 _ rfl;go_wp2_with fail;obtain⟨wz,gJ⟩:=aaK (((w8.setCell ⟨X+1+1,0,none⟩ (.int .i64 kd)).setCell ⟨X+1+1,1,none⟩ (.slice A' n' m')).setCell ⟨X+1+1,2,none⟩ (.string cs));rw[gJ];have tD:wz.heap[X+1+1]?=some (.cells #[.int .i64 kd,.slice A' n' m',.string cs] 29 (0,0)):=by rw[<-gJ];simp[World.setCell,Array.getElem?_modify,wG.out]
    have xu:Below X w8 wz:=by
     rw[<-gJ];exact (((vQ X w8).blSe _).blSe _).blSe _
    have qE:=run_loadVar_row (P:=prog) _ _ 29 29 _ (0,0) _ tD underlying29 rfl (by kernel_rfl);refine bodyPost_ret (L3 rfl _ _ _ _ _ _ rfl qE rfl) rfl ⟨kd,A',n',m',cs,la,rfl,Eg.out,by have h:=gZ.out (by first | rfl | trivial);rw[rp.out.1,rp.out.2.1,rp.out.2.2.1,rp.out.2.2.2] at h;exact h,by rw[<-gJ];exact (((V4.out.set ax eB aK (p:=⟨X+1+1,0,none⟩) (by dsimp only;omega) _).set ax eB aK (p:=⟨X+1+1,1,none⟩) (by dsimp only;omega) _).set ax eB aK (p:=⟨X+1+1,2,none⟩) (by dsimp only;omega) _).all eB,by rw[hX];exact yG.out.trans xu⟩
   | false=>
    go_wp2_with fail;go_roundw
    case rel=>exact⟨j+1,by omega,by go_num,by omega,dZ,Y9,_,HWE,Xx⟩
    ·simp[intOf]<;>omega
  ·obtain rfl:j=7:=by omega
   clear ag;go_wp2_with fail;have bw:=bgQ k oP.out wd ws yN.out;rw[fz.out] at bw;refine bw.mono ?_;rintro e w7 ⟨A',n',m',la,rfl,han,har,hb⟩;have gZ:=jq han;have iG:=jq har;clear han har;have wG:=jq ((hb.block (X+2) (by omega)).trans Oq.out);have yG:=aaZ Nm hb;clear hb bw;have kR:=fD [_,_,_] wG.out;have kR0:=kR 0 _ rfl;have kR1:=kR 1 _ rfl;have kR2:=kR 2 _ rfl;have fR:∀ q,w7.frozen? ⟨X+2,q,none⟩=false:=λq=>by simp[World.frozen?,wG.out]
   go_wp2_with fail;obtain⟨wz,gJ⟩:=aaK (((w7.setCell ⟨X+1+1,0,none⟩ (.int .i64 6)).setCell ⟨X+1+1,1,none⟩ (.slice A' n' m')).setCell ⟨X+1+1,2,none⟩ (.string ⟨#[]⟩));rw[gJ];have tD:wz.heap[X+1+1]?=some (.cells #[.int .i64 6,.slice A' n' m',.string ⟨#[]⟩] 29 (0,0)):=by rw[<-gJ];simp[World.setCell,Array.getElem?_modify,wG.out]
   have xu:Below X w7 wz:=by
    rw[<-gJ];exact (((vQ X w7).blSe _).blSe _).blSe _
   have qE:=run_loadVar_row (P:=prog) _ _ 29 29 _ (0,0) _ tD underlying29 rfl (by kernel_rfl);refine bodyPost_ret (L3 rfl _ _ _ _ _ _ rfl qE rfl) rfl ⟨6,A',n',m',⟨#[]⟩,la,rfl,by decide,by have h:=gZ.out;rw[rp.out.1,rp.out.2.1,rp.out.2.2.1,rp.out.2.2.2] at h;exact h,by rw[<-gJ];exact (((iG.out.set ax eB aK (p:=⟨X+1+1,0,none⟩) (by dsimp only;omega) _).set ax eB aK (p:=⟨X+1+1,1,none⟩) (by dsimp only;omega) _).set ax eB aK (p:=⟨X+1+1,2,none⟩) (by dsimp only;omega) _).all eB,by rw[hX];exact yG.out.trans xu⟩
end
section
open Go.RowKit Go.Shelf
attribute [local go_sem] Oper.semAt_some
theorem baX(ap:ByteArray)(jz:ap.size<=140737488355328)(zv:Value)(xs:List Np.Signed)(qn:ByteArray)(eA:qn.size<=140737488355328)(ty:Int)(w:World)(hR:cr w w.heap.size)(hz:SlR az 5 w w.heap.size zv xs) :
 Calls prog 8 #[.agg #[.string ap,zv],.agg #[.string qn,.int .i64 ty]] w λe w'=>e = .returned (.bool true)/\Below w.heap.size w w':=by
 obtain⟨A,N,C,rfl,hN,_,_⟩:=cE hz;have HN:=jq hN;have nh:=jq jz;have gz:=jq eA;obtain⟨X,hX⟩:=aaK w.heap.size;obtain⟨w1,ah⟩:=aaK (w.alloc (.cells #[.string ap,.slice A N C] 66));obtain⟨w2,ar⟩:=aaK (w1.alloc (.cells #[.string qn,.int .i64 ty] 27));have z1:w1.heap.size=X+1:=by rw[<-ah,<-hX];simp
 have z2:w2.heap.size=X+1+1:=by rw[<-ar,<-z1];simp
 have b1:Below w.heap.size w w1:=by rw[<-ah];exact aG _ _
 have b2:Below w1.heap.size w1 w2:=by rw[<-ar];exact aG _ _
 have b12:=b1.trans (b2.abQ);have A9:Hid (w2.heap[X]?=some (.cells [Value.string ap,.slice A N C].toArray 66 (0,0))):=jq ((b2.block X (by omega)).trans (by rw[<-ah,<-hX];exact heap_alloc_new _ _));have WK:Hid (w2.heap[X+1]?=some (.cells [Value.string qn,.int .i64 ty].toArray 27 (0,0))):=jq (by rw[<-ar,<-z1];exact heap_alloc_new _ _);have HR:=jq ((hR.keep b12).more b12.size);have HZ:=jq (hz.later ax aK b12);have HB:=jq b12;clear hz hR b1 b2 b12 hN jz eA;go_enter func8,ntmps8;go_wp2_with fail;clear ah;go_wp2_with fail;clear ar;go_wp2_with fail;refine (aMX w2 HR.out).mono ?_;rintro e w3 ⟨rfl,aq⟩;have z3:X+1+1<=w3.heap.size:=by have:=aq.size;omega
 have aw:=aaZ HB aq;have Hx:=jq ((aq.block X (by omega)).trans A9.out);have WL:=jq ((aq.block (X+1) (by omega)).trans WK.out);have ju:=jq ((HR.out.keep aq).more aq.size);have uD:=jq (HZ.out.later ax aK aq);have a0:=af _ Hx.out 0 _ rfl;have a1:=af _ Hx.out 1 _ rfl;clear aq;go_wp2_with fail;clear a0 a1;refine (ayQ ap (.slice A N C) xs w3 uD.out).mono ?_;obtain⟨b0,h0⟩:=aaK (Np.yes (Np.yA xs));rw[h0];have H0:=jq h0;clear h0;rintro e w4 ⟨rfl,hb⟩;have sK:=jq hb;have aX:=jq (aw.out.trans (hb.mono (by have:=aw.out.size;omega)));have Hy:=jq ((hb.block X (by omega)).trans Hx.out);have WM:=jq ((hb.block (X+1) (by omega)).trans WL.out);have z4:X+1+1<=w4.heap.size:=by have:=hb.size;omega
 have iZ:=jq ((ju.out.keep hb).more hb.size);have og:=jq (uD.out.later ax aK hb);clear hb
 cases b0 with
 | false=>
  go_wp2_with fail;go_ret;exact⟨rfl,aX.out⟩
 | true=>
 have vW:Hid (Np.yA xs):=jq (Np.kw.1 H0.out);have a0:=af _ Hy.out 0 _ rfl;have a1:=af _ Hy.out 1 _ rfl;go_wp2_with fail;clear a0 a1;refine (bqX ap nh.out (.slice A N C) xs (yQ vW.out.1 (by decide)) w4 og.out).mono ?_;obtain⟨b1,h1⟩:=aaK (Np.yes (Np.VZone ⟨ap.data.toList,xs⟩));rw[h1];have H1:=jq h1;clear h1;rintro e w5 ⟨rfl,hb⟩;have bx:=jq (aX.out.trans (hb.mono aX.out.size));have Nr:=jq ((hb.block X (by omega)).trans Hy.out);have Hu:=jq ((hb.block (X+1) (by omega)).trans WM.out);have z5:X+1+1<=w5.heap.size:=by have:=hb.size;omega
 have y9:=jq ((iZ.out.keep hb).more hb.size);have HZ5:=jq (og.out.later ax aK hb);clear hb
 cases b1 with
 | false=>
  go_wp2_with fail;go_ret;exact⟨rfl,bx.out⟩
 | true=>
 have sZ:Hid (Np.VZone ⟨ap.data.toList,xs⟩):=jq (Np.kw.1 H1.out);have a1:=af _ Nr.out 1 _ rfl;have q0:=af _ Hu.out 0 _ rfl;have q1:=af _ Hu.out 1 _ rfl;by_cases qh:N<=60
 case neg=>
  have d1:(60:Int)<(N:Int):=by omega
  have d2:decide ((60:Int)<(N:Int))=true:=uQ d1;have d3:60<N:=by omega
  have d4:decide (60<N)=true:=uQ d3;go_wp2_with fail;go_ret;exact⟨rfl,bx.out⟩
 have d1:¬ (60:Int)<(N:Int):=by omega
 have d2:decide ((60:Int)<(N:Int))=false:=tQ d1;have d3:¬ 60<N:=by omega
 have d4:decide (60<N)=false:=tQ d3;go_wp2_with fail;clear a1 q0 q1;refine (bpZ qn gz.out ty w5).mono ?_;obtain⟨b2,h2⟩:=aaK (Np.ai qn.data.toList&&(decide (1<=ty)&&decide (ty<=8)));rw[h2];have H2:=jq h2;clear h2;rintro e w6 ⟨rfl,hb⟩;have bH:=jq (bx.out.trans (hb.mono bx.out.size));have Ns:=jq ((hb.block X (by omega)).trans Nr.out);have Nq:=jq ((hb.block (X+1) (by omega)).trans Hu.out);have z6:X+1+1<=w6.heap.size:=by have:=hb.size;omega
 have jT:=jq ((y9.out.keep hb).more hb.size);have Ji:=jq (HZ5.out.later ax aK hb);clear hb
 cases b2 with
 | false=>
  go_wp2_with fail;go_ret;exact⟨rfl,bH.out⟩
 | true=>
 have HQ:Hid (Np.ai qn.data.toList=true/\1<=ty/\ty<=8):=jq (by have h:=H2.out;simp only[Bool.and_eq_true,Qa] at h;exact h);have mC:Hid (Np.ai ap.data.toList=true):=jq (Np.AD sZ.out).1;have a0:=af _ Ns.out 0 _ rfl;have q0:=af _ Nq.out 0 _ rfl;have jm:qn.size<=1000:=by have h:=Np.yr HQ.out.1;rw[bO] at h;omega
 have Df:ap.size<=1000:=by have h:=Np.yr mC.out;rw[bO] at h;omega
 have hne:ap.data.toList≠[]:=vl mC.out;go_wp2_with fail;clear a0 q0;refine (DH qn ap jm Df w6).mono ?_;rw[Np.py hne];obtain⟨b3,h3⟩:=aaK (Np.aW qn.data.toList ap.data.toList);rw[h3];have H3:=jq h3;clear h3 jm Df hne;rintro e w7 ⟨rfl,hb⟩;have cw:=jq (bH.out.trans (hb.mono bH.out.size));have Hz:=jq ((hb.block X (by omega)).trans Ns.out);have Hv:=jq ((hb.block (X+1) (by omega)).trans Nq.out);have z7:X+1+1<=w7.heap.size:=by have:=hb.size;omega
 have wE:=jq ((jT.out.keep hb).more hb.size);have HZ7:=jq (Ji.out.later ax aK hb);clear hb
 cases b3 with
 | false=>
  go_wp2_with fail;go_ret;exact⟨rfl,cw.out⟩
 | true=>
 have a0:=af _ Hz.out 0 _ rfl;have a1:=af _ Hz.out 1 _ rfl;have q0:=af _ Hv.out 0 _ rfl;have q1:=af _ Hv.out 1 _ rfl;go_wp2_with fail;clear a0 a1 q0 q1;refine (bcJ ap nh.out A N C xs HN.out sZ.out (λx hx=>⟨yQ (vW.out.2 x hx).1 (by decide),yQ (vW.out.2 x hx).2 (by decide)⟩) qn gz.out HQ.out.1 H3.out ty HQ.out.2.1 HQ.out.2.2 w7 wE.out HZ7.out).mono ?_;rintro e w8 ⟨kd,lA,ln,lc,cs,l,rfl,hcs,RC,hl,hb⟩;have Eg:=jq hcs;have D4:=jq RC;have XM:=jq hl;have dZ:=jq (cw.out.trans (hb.mono cw.out.size));have WS:=jq ((hb.block X (by omega)).trans Hz.out);have WN:=jq ((hb.block (X+1) (by omega)).trans Hv.out);have z8:X+1+1<=w8.heap.size:=by have:=hb.size;omega
 have IN:=jq ((wE.out.keep hb).more hb.size);clear hb hcs RC hl;obtain⟨V,hV⟩:=aaK w8.heap.size;go_upto_region 5 with fail
 obtain⟨w9,iD⟩:=aaK (w8.alloc (.cells #[.int .i64 kd,.slice lA ln lc,.string cs] 29));have cW:Below w8.heap.size w8 w9:=by rw[<-iD];exact aG _ _
 have um:Hid (w9.heap[V]?=some (.cells [Value.int .i64 kd,.slice lA ln lc,.string cs].toArray 29 (0,0))):=jq (by rw[<-iD,<-hV];exact heap_alloc_new _ _);have eJ:=jq (dZ.out.trans (cW.mono dZ.out.size));have WT:=jq ((cW.block X (by omega)).trans WS.out);have WO:=jq ((cW.block (X+1) (by omega)).trans WN.out);have z9:V+1<=w9.heap.size:=by rw[<-iD,<-hV];simp
 have bP:=jq ((IN.out.keep cW).more cW.size);have NM:=jq (XM.out.later ax aK cW);have v0:=af _ um.out 0 _ rfl;have v1:=af _ um.out 1 _ rfl;have v2:=af _ um.out 2 _ rfl;have zXV:X+1+1<=V:=by omega
 try rw[hV]
 try rw[iD]
 clear cW iD hV;go_wp2_with fail;clear v0 v1 v2;refine (aiJ ⟨kd,l,cs.data.toList⟩ (.slice lA ln lc) cs rfl Eg.out w9 NM.out).mono ?_;obtain⟨b4,h4⟩:=aaK (Np.ib ⟨kd,l,cs.data.toList⟩);rw[h4];have H4:=jq h4;clear h4;rintro e w10 ⟨rfl,hb⟩;have yC:=jq (eJ.out.trans (hb.mono eJ.out.size));have WQ:=jq ((hb.block X (by omega)).trans WT.out);have No:=jq ((hb.block (X+1) (by omega)).trans WO.out);have Ei:=jq ((hb.block V (by omega)).trans um.out);have z10:V+1<=w10.heap.size:=by have:=hb.size;omega
 have IL:=jq ((bP.out.keep hb).more hb.size);have NL:=jq (NM.out.later ax aK hb);clear hb
 cases b4 with
 | false=>
  go_wp2_with fail;go_ret;exact⟨rfl,yC.out⟩
 | true=>
 have a0:=af _ WQ.out 0 _ rfl;have q0:=af _ No.out 0 _ rfl;have q1:=af _ No.out 1 _ rfl;have v0:=af _ Ei.out 0 _ rfl;have v1:=af _ Ei.out 1 _ rfl;have v2:=af _ Ei.out 2 _ rfl;go_wp2_with fail;clear a0 q0 q1 v0 v1 v2;have cK:=Fj ap qn nh.out gz.out ty ⟨kd,l,cs.data.toList⟩ [.int .i64 kd,.slice lA ln lc,.string cs] w10 IL.out ⟨_,cs,NL.out,rfl,Eg.out,rfl⟩ (λy hy=>by
  have h:=vW.out.2 y (D4.out y hy).1;exact⟨yQ h.1 (by decide),yQ h.2 (by decide)⟩)
 rw[Np.aUX sZ.out (Np.gY HQ.out) (by unfold Np.bA;rw[HQ.out.1,mC.out,H3.out];rfl) H4.out D4.out] at cK;refine cK.mono ?_;clear cK;rintro e w11 ⟨fA,fn,fc,rfl,hf,hb⟩;have WZ:=jq hf;have MY:=jq (yC.out.trans (hb.mono yC.out.size));have WP:=jq ((hb.block V (by omega)).trans Ei.out);have XK:=jq (NL.out.later ax aK hb);have v1:=af _ WP.out 1 _ rfl;clear hb hf;dsimp only;go_wp2_with fail;clear v1;refine (GU (.slice fA fn fc) (.slice lA ln lc) l w11 WZ.out XK.out).mono ?_;rintro e w12 ⟨rfl,hb⟩;have AL:=jq (MY.out.trans (hb.mono MY.out.size));clear hb;go_wp2_with fail;go_ret;exact⟨rfl,AL.out⟩
end
end Go.Proofs.YtadhigmjilijcaaGreatDoor
