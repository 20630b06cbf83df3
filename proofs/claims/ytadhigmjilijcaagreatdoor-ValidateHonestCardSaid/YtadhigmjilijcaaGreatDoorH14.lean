/- No condition. -/
import Derived.Test.YtadhigmjilijcaaGreatDoorH10
import Derived.Test.YtadhigmjilijcaaGreatDoorH12
import Derived.Test.YtadhigmjilijcaaGreatDoorH13
set_option linter.all false
set_option maxRecDepth 100000
set_option maxHeartbeats 8000000
namespace Go.Proofs.YtadhigmjilijcaaGreatDoor
open Go.Proofs.Tryz
section
open Go.RowKit
theorem bKY{z:Np.Zone}(dJ:z.sets.length<=20000):Np.VZone z↔(((((Np.gh z=true/\Np.ApexH z.apex z.sets)/\Np.AG z.sets)/\Np.rm z.sets (Np.eT z))/\Np.BY z.sets (Np.eT z))/\∀ x∈z.sets,Np.gB z.apex x.sigs):=by
 constructor
 ·intro h;refine⟨⟨⟨⟨⟨h.right,h.start,h.server,h.fits⟩,λk x hx ht=>⟨λp h0 hp he=>?_,λn hn he=>?_⟩⟩,h.cuts⟩,h.sigs⟩,h.form⟩
  ·obtain⟨hk,rfl⟩:=cQ.1 hx;obtain⟨dg,rfl⟩:=cQ.1 hp;obtain⟨m,rfl⟩:∃ m,k=m+1:=⟨k - 1,by omega⟩;exact h.aliasBefore m hk ht he
  ·obtain⟨hk,rfl⟩:=cQ.1 hx;obtain⟨dg,rfl⟩:=cQ.1 hn;exact h.aliasBehind k dg ht he
 ·rintro⟨⟨⟨⟨⟨h1,h2⟩,h3⟩,h4⟩,h5⟩,h6⟩;refine⟨h1,dJ,h2.start,h2.server,h2.fits,λi hi ht he=>?_,λi hi ht he=>?_,h4,h5,h6⟩
  ·exact (h3 (i+1) _ (aQ hi) ht).1 _ (by omega) (aQ (by omega)) he
  ·exact (h3 i _ (aQ (by omega)) ht).2 _ (aQ hi) he
theorem ue{P:Prop}(h:Np.yes P=false):¬ P:=λhp=>by rw[Np.gY hp] at h;cases h
theorem bRZ(a:ByteArray)(ha:a.size<=140737488355328)(v:Value)(l:List Np.Signed)(dJ:l.length<=20000)(w:World)(hR:cr w w.heap.size)(hd:SlR az 5 w w.heap.size v l) :
 Calls prog 138 #[.agg #[.string a,v]] w (aCX w.heap.size w (.bool (Np.yes (Np.VZone ⟨a.data.toList,l⟩)))):=by
 obtain⟨r,hr⟩:=aaK (Np.yes (Np.VZone ⟨a.data.toList,l⟩));rw[hr];have HR:Hid (Np.yes (((((Np.gh ⟨a.data.toList,l⟩=true/\Np.ApexH a.data.toList l)/\Np.AG l)/\Np.rm l (Np.eT ⟨a.data.toList,l⟩))/\Np.BY l (Np.eT ⟨a.data.toList,l⟩))/\∀ x∈l,Np.gB a.data.toList x.sigs)=r):=jq (by
  rw[<-hr];exact (Np.G1 (bKY (z:=⟨a.data.toList,l⟩) dJ)).symm)
 have HD:=jq hd;have eS:=jq hR;obtain⟨A,c,rfl,aR,cP⟩:=ba hd;clear hr hd hR;have HW:Hid (∀ o o',Below w.heap.size w ((w.alloc o).alloc o')):=jq (λo o'=>((vQ _ w).alloc (bQ _) _).alloc (by simp) _);go_enter func138,ntmps138;go_wp2_with fail;obtain⟨w1,ah⟩:=aaK ((w.alloc (.cells #[.string a,.slice A l.length c] 66)).alloc (.cells #[.string a,.slice A l.length c] 176));have c0:w1.cell? ⟨w.heap.size+1,0,none⟩=some (.string a):=by rw[<-ah];simp[go_sem]
 have c1:w1.cell? ⟨w.heap.size+1,1,none⟩=some (.slice A l.length c):=by rw[<-ah];simp[go_sem]
 have bG:w1.heap.size=w.heap.size+2:=by rw[<-ah];simp
 have ay:Hid (Below w.heap.size w w1):=jq (by rw[<-ah];exact HW.out _ _);rw[ah];clear ah;refine (bQY a ha _ l dJ _ ((eS.out.keep ay.out).more (by omega)) (HD.out.later ax aK ay.out)).mono ?_;rintro e w2 ⟨rfl,ae⟩;have bL:=ae.size;have am:=aaZ ay ae;have d0:w2.cell? ⟨w.heap.size+1,0,none⟩=some (.string a):=aaQ ae c0;have d1:w2.cell? ⟨w.heap.size+1,1,none⟩=some (.slice A l.length c):=aaQ ae c1;clear ae c0 c1
 cases oD:Np.gh ⟨a.data.toList,l⟩ with
 | false=>
  have HX:Hid (r=false):=jq (by rw[<-HR.out];exact Np.eX λh=>by rw[oD] at h;cases h.1.1.1.1.1);clear oD;go_wp2_with fail;go_ret;exact⟨aj HX.out.symm,am.out⟩
 | true=>
  have IV:=jq oD;have ho:=Np.VZone.inOrder oD;have HS:=jq (Md ho);have se:=oD;unfold Np.gh at se;simp only[Bool.and_eq_true] at se;have NA:=jq se.1.1;have HV:Hid (∀ x∈l,Np.ai x.set.name=true):=jq (λx hx=>AB (Np.Fm se.2 x hx));clear oD se ho;go_wp2_with fail;refine (aiY a ha NA.out _ l dJ HV.out HS.out _ (HD.out.later ax aK am.out)).mono ?_;rintro e w3 ⟨rfl,aq⟩;have mh:=aq.size;have aw:=aaZ am aq;replace d0:=aaQ aq d0;replace d1:=aaQ aq d1;clear aq
  cases jz:Np.yes (Np.ApexH a.data.toList l) with
  | false=>
   have HX:Hid (r=false):=jq (by rw[<-HR.out];exact Np.eX λh=>ue jz h.1.1.1.1.2);clear jz;go_wp2_with fail;go_ret;exact⟨aj HX.out.symm,aw.out⟩
  | true=>
   have nh:=jq (Np.kw.1 jz);clear jz;go_wp2_with fail;refine (bbQ a _ l dJ HV.out HS.out _ (HD.out.later ax aK aw.out)).mono ?_;rintro e w4 ⟨⟨bv,rfl,eF⟩,aE⟩;have pw:=aE.size;have aX:=aaZ aw aE;obtain⟨A2,c2,rfl,cH,ei⟩:=ba eF;have cO:(Np.eT ⟨a.data.toList,l⟩).length=l.length:=Np.uH _;rw[cO] at cH ei eF |-;clear cO;have D9:=jq eF;clear aE eF d0 d1;go_wp2_with fail;obtain⟨w5,aS⟩:=aaK (w4.alloc (.cells #[.string a,.slice A l.length c,.slice A2 l.length c2] 217));have g0:w5.cell? ⟨w4.heap.size,0,none⟩=some (.string a):=by rw[<-aS];simp[go_sem]
   have g1:w5.cell? ⟨w4.heap.size,1,none⟩=some (.slice A l.length c):=by rw[<-aS];simp[go_sem]
   have g2:w5.cell? ⟨w4.heap.size,2,none⟩=some (.slice A2 l.length c2):=by rw[<-aS];simp[go_sem]
   have qU:w5.heap.size=w4.heap.size+1:=by rw[<-aS];simp
   have Na:Hid (Below w4.heap.size w4 w5):=jq (by rw[<-aS];exact blAl);have bx:Hid (Below w.heap.size w w5):=aaZ aX Na.out;have ip:Hid (∀ wx,Below w.heap.size w wx->w.heap.size<=wx.heap.size->SlR az 5 wx wx.heap.size (.slice A l.length c) l):=jq (λwx hb _=>HD.out.later ax aK hb);have Bo:Hid (∀ wx,Below w4.heap.size w4 wx->SlR RTx 1 wx wx.heap.size (.slice A2 l.length c2) (Np.eT ⟨a.data.toList,l⟩)):=jq (λwx hb=>D9.out.later jp Au hb);have HL:Hid ((Np.eT ⟨a.data.toList,l⟩).length=l.length):=jq (Np.uH _);rw[aS];clear aS;refine (aiQ a _ A2 l.length c2 l dJ _ (ip.out _ bx.out bx.out.size)).mono ?_;rintro e w6 ⟨rfl,bE⟩;have px:=bE.size;have bH:=aaZ bx bE;have AM:=aaZ Na bE;replace g0:=aaQ bE g0;replace g1:=aaQ bE g1;replace g2:=aaQ bE g2;clear bE
   cases oC:Np.yes (Np.AG l) with
   | false=>
    have HX:Hid (r=false):=jq (by rw[<-HR.out];exact Np.eX λh=>ue oC h.1.1.1.2);clear oC;go_wp2_with fail;go_ret;exact⟨aj HX.out.symm,bH.out⟩
   | true=>
    have rt:=jq (Np.kw.1 oC);clear oC;go_wp2_with fail;refine (aqY a _ _ l _ HL.out _ (ip.out _ bH.out bH.out.size) (Bo.out _ AM.out)).mono ?_;rintro e w7 ⟨rfl,bF⟩;have qV:=bF.size;have cw:=aaZ bH bF;have Wf:=aaZ AM bF;replace g0:=aaQ bF g0;replace g1:=aaQ bF g1;replace g2:=aaQ bF g2;clear bF
    cases Da:Np.yes (Np.rm l (Np.eT ⟨a.data.toList,l⟩)) with
    | false=>
     have HX:Hid (r=false):=jq (by rw[<-HR.out];exact Np.eX λh=>ue Da h.1.1.2);clear Da;go_wp2_with fail;go_ret;exact⟨aj HX.out.symm,cw.out⟩
    | true=>
     have ww:=jq (Np.kw.1 Da);clear Da;go_wp2_with fail;refine (bAJ a _ _ l _ HL.out _ (ip.out _ cw.out cw.out.size) (Bo.out _ Wf.out)).mono ?_;rintro e w8 ⟨rfl,cA⟩;have su:=cA.size;have dZ:=aaZ cw cA;replace g0:=aaQ cA g0;replace g1:=aaQ cA g1;replace g2:=aaQ cA g2;clear cA
     cases jG:Np.yes (Np.BY l (Np.eT ⟨a.data.toList,l⟩)) with
     | false=>
      have HX:Hid (r=false):=jq (by rw[<-HR.out];exact Np.eX λh=>ue jG h.1.2);clear jG;go_wp2_with fail;go_ret;exact⟨aj HX.out.symm,dZ.out⟩
     | true=>
      have yZ:=jq (Np.kw.1 jG);clear jG;go_wp2_with fail;refine (aAY a _ A2 l.length c2 l _ (ip.out _ dZ.out dZ.out.size)).mono ?_;rintro e w9 ⟨rfl,cW⟩;have Lw:=cW.size;have eJ:=aaZ dZ cW;replace g0:=aaQ cW g0;replace g1:=aaQ cW g1;replace g2:=aaQ cW g2;clear cW
      cases au:Np.yes (∀ x∈l,Np.gB a.data.toList x.sigs) with
      | false=>
       have HX:Hid (r=false):=jq (by rw[<-HR.out];exact Np.eX λh=>ue au h.2);clear au;go_wp2_with fail;go_ret;exact⟨aj HX.out.symm,eJ.out⟩
      | true=>
       have EF:=jq (Np.kw.1 au);clear au;go_wp2_with fail;go_ret;exact⟨aj (by rw[<-HR.out];exact (Np.gY ⟨⟨⟨⟨⟨IV.out,nh.out⟩,rt.out⟩,ww.out⟩,yZ.out⟩,EF.out⟩).symm),eJ.out⟩
end
section
open Go.RowKit Go.MapKept
def EZ(W:World)(B:Nat)(e:List Value)(p:Np.Placed):Prop:=∃ (s:ByteArray) (v:Value),s.data.toList=p.zone.apex/\s.size<=140737488355328/\SlR az 5 W B v p.zone.sets/\e = [.int .i64 p.host,.string s,v]
theorem UA:dR EZ:=λ_ _ _ _ _ ⟨s,v,h1,h2,h3,h5⟩ hb=>⟨s,v,h1,h2,h3.keep ax hb,h5⟩
theorem UB:ef EZ:=λ_ _ _ _ _ ⟨s,v,h1,h2,h3,h5⟩ hb=>⟨s,v,h1,h2,h3.more aK hb,h5⟩
def wO(r n:Nat)(w:World):Prop:=∃ es c kvs,w.heap[r]?=some (.map es c)/\es.toList.map (λe=>(e.key,e.val))=(kvs:List (List UInt8×Value)).map (λp=>(bB p.1,p.2))/\es.size<=n
theorem wO.lt{r n:Nat}{w:World}(h:wO r n w):r<w.heap.size:=by
 obtain⟨es,c,kvs,h,_⟩:=h;exact (eQ.1 h).1
theorem wO.keep{r k:Nat}{w w':World}{n:Nat}(h:wO r k w)(hb:Below n w w')(hn:r<n):wO r k w':=by
 obtain⟨es,c,kvs,h,h2⟩:=h;exact⟨es,c,kvs,(hb.block r hn).trans h,h2⟩
theorem wO.made(w:World):wO w.heap.size 0 (w.alloc (.map #[] 0)):=⟨#[],0,[],heap_alloc_new _ _,rfl,bQ _⟩
theorem ayJ(x:List UInt8):∀ (es:List MapEntry) (kvs:List (List UInt8×Value)) (i:Nat),es.map (λe=>(e.key,e.val))=kvs.map (λp=>(bB p.1,p.2))->
 (∃ j e,es[j]?=some e/\e.key=bB x/\Instr.findNow .string (bB x) es i=some (some (i+j,e.val)))\/Instr.findNow .string (bB x) es i=some none:=by
 intro es
 induction es with
 | nil=>
  intro kvs i h;exact .inr rfl
 | cons e es ih=>
  intro kvs i h
  cases kvs with
  | nil=>simp at h
  | cons p kvs=>
   obtain⟨y,u⟩:=p;simp only[List.map_cons,List.cons.injEq,Prod.mk.injEq] at h;obtain⟨⟨h1,h2⟩,h3⟩:=h;have hs:Instr.sameNow .string (bB x) e.key=some (x == y):=by rw[h1];simp only[Instr.sameNow];rw[U6]
   by_cases dY:x=y
   ·subst dY;have hb:(x == x)=true:=by simp
    rw[hb] at hs;exact .inl ⟨0,e,rfl,h1,by simp only[Instr.findNow,hs];rfl⟩
   ·have hb:(x == y)=false:=by simpa using dY
    rw[hb] at hs;rcases ih kvs (i+1) h3 with ⟨j,e',j1,j2,j3⟩ | h4
    ·exact .inl ⟨j+1,e',by simpa using j1,j2,by simp only[Instr.findNow,hs];rw[j3,show i+1+j=i+(j+1) by omega]⟩
    ·exact .inr (by simp only[Instr.findNow,hs];exact h4)
theorem a8Z(a:ByteArray)(P:Program)(w:World):(Instr.keyThatStays (.string a) (.string a)).run P w = .ok (.string a) w:=by
 have h1:(a == a)=true:=by
  show (a.data == a.data)=true;simp
 have:Instr.sameBits 10000 (.string a) (.string a)=true:=by simp[Instr.sameBits,h1]
 simp[Instr.keyThatStays,this]
section
variable {P:Program} {ops:Array Oper} {rest:List Oper} {o:Oper} {a:Act} {Q:Exit->Act->World->Prop}
end

def Jq(W:World)(B:Nat)(e:List Value)(c:Np.Copy):Prop:=∃ (s:ByteArray) (v:Value),s.data.toList=c.zone.apex/\s.size<=140737488355328/\SlR az 5 W B v c.zone.sets/\e = [.int .i64 c.host,.int .i64 c.frm,.int .i64 c.til,.string s,v]
theorem blZ:dR Jq:=λ_ _ _ _ _ ⟨s,v,h1,h2,h3,h5⟩ hb=>⟨s,v,h1,h2,h3.keep ax hb,h5⟩
theorem blJ:ef Jq:=λ_ _ _ _ _ ⟨s,v,h1,h2,h3,h5⟩ hb=>⟨s,v,h1,h2,h3.more aK hb,h5⟩

end
section
open Go.RowKit Go.MapKept Go.Shelf Go.Sort
structure Ho(W:World)(X:Nat)(hv cv:Value)(stop:Int):Prop where
 c0:W.cell? ⟨X,0,none⟩=some hv
 c1:W.cell? ⟨X,1,none⟩=some cv
 c8:W.cell? ⟨X,8,none⟩=some (.int .i64 stop)
 lt:X<W.heap.size
theorem Ho.keep{W W':World}{X B:Nat}{hv cv:Value}{stop:Int}(h:Ho W X hv cv stop)(hb:Below B W W')(hB:X<B):Ho W' X hv cv stop:=⟨(hb.cell hB).trans h.c0,(hb.cell hB).trans h.c1,(hb.cell hB).trans h.c8,lqQ h.lt hb.size⟩
end
section
open Go.RowKit

end
section
open Go.RowKit Go.Sort Go.Shelf
abbrev VN:={ x:List UInt8 // Np.ai x=true }
instance:Inhabited VN:=⟨⟨[46],by decide⟩⟩
def Jr(W:World)(B:Nat)(e:List Value)(h:Np.Hist):Prop:=∃ (hv cv:Value) (s:ByteArray) (dv oy:Value),e = [hv,cv,.string s,.int .i64 h.anchor.type,.int .i64 h.anchor.life,dv,oy,.int .i64 h.drift,.int .i64 h.stop]/\s.data.toList=h.anchor.name/\s.size<=140737488355328/\
 SlR EY 3 W B hv h.hosts/\SlR Jq 5 W B cv h.copies/\SlR cm 3 W B dv h.anchor.data/\SlR oX 1 W B oy h.hints
theorem bsZ:dR Jr:=λ_ _ _ _ _ ⟨hv,cv,s,dv,oy,h0,h1,h2,h3,h4,h5,h6⟩ hb=>⟨hv,cv,s,dv,oy,h0,h1,h2,h3.keep Uw hb,h4.keep blZ hb,h5.keep bM hb,h6.keep L5 hb⟩
theorem bsJ:ef Jr:=λ_ _ _ _ _ ⟨hv,cv,s,dv,oy,h0,h1,h2,h3,h4,h5,h6⟩ hb=>⟨hv,cv,s,dv,oy,h0,h1,h2,h3.more Ux hb,h4.more blJ hb,h5.more bY hb,h6.more L6 hb⟩
end
section
open Go.RowKit
theorem em.keep{α:Type}{R:aDQ α}{sz:Nat}{e:TypeId}{base:Nat}{M:Nat->Prop}{w w':World}{v:Value}{xs:List α}(h:em R sz e base M w v xs)(hk:dR R)(hs:ia R)(hm:ef R)(hb:Below w.heap.size w w'):em R sz e base M w' v xs:=by
 refine h.leaves hk hs hm (Leaves'.of_below hb) (λg hg=>?_);obtain⟨rows,h1,h2,h3,h4⟩:=h;exact⟨hb.block g (h2.lt g hg).2,h3 g hg⟩
theorem em.lt{α:Type}{R:aDQ α}{sz:Nat}{e:TypeId}{base:Nat}{M:Nat->Prop}{w:World}{v:Value}{xs:List α}(h:em R sz e base M w v xs):∀ g,v.ownBlock=some g->base<=g/\g<w.heap.size:=by
 obtain⟨rows,h1,h2,h3,h4⟩:=h;exact h2.lt
theorem em.formN{α:Type}{R:aDQ α}{sz:Nat}{e:TypeId}{base:Nat}{M:Nat->Prop}{w:World}{v:Value}{xs:List α}{n:Nat}(h:em R sz e base M w v xs)(hn:xs.length=n):∃ A c,v = .slice A n c:=by
 subst hn;exact h.form
theorem L8:∀ (w:World) (B:Nat) (r:List Value) (y:Np.Signed),az w B r y->∀ u∈r,u.oneCell'=true:=λw B r y ⟨s,v,u',_,_,h3,h4,h5⟩ u hu=>by
 obtain⟨A,c,rfl,_⟩:=ba h3;obtain⟨A',c',rfl,_⟩:=ba h4;rw[h5] at hu;simp only[List.mem_cons,Qh,or_false] at hu;rcases hu with rfl | rfl | rfl | rfl | rfl<;>rfl
theorem em.slr_sans{α:Type}{R:aDQ α}{sz:Nat}{e:TypeId}{base:Nat}{M M':Nat->Prop}{w:World}{v:Value}{xs:List α}(hs:ia R)(hm:ef R)(h:em R sz e base M w v xs)(hM:∀ k,M' k->M k/\v.ownBlock≠some k)(hl:xs.length<=140737488355328):SlR R sz (cU w M') w.heap.size v xs:=by
 obtain⟨rows,h1,h2,h3,h4⟩:=h;have h5:bS R sz e base w.heap.size (cU w M') v xs:=⟨rows,h1,ra h2 (λg hg=>rg (λhm'=>(hM g hm').2 hg)),λi r x hr hx=>⟨(h4 i r x hr hx).1,hs _ _ _ _ _ _ (λk hk=>(hM k hk).1) (h4 i r x hr hx).2⟩⟩;have h6:=h5.slr hm (by rw[oK];exact bQ _) hl;rwa [oK] at h6
theorem Leaves'.slr{α:Type}{R:aDQ α}{sz:Nat}(hk:dR R)(hs:ia R)(hm:ef R){M M':Nat->Prop}{w w':World}(h:Leaves' M w w' M'){v:Value}{xs:List α}(hr:SlR R sz (cU w M) w.heap.size v xs):SlR R sz (cU w' M') w'.heap.size v xs:=by
 have hb:Below w.heap.size (cU w M) (cU w' λk=>M k\/M' k):=by
  refine⟨h.os,h.tape,h.output,by rw[oK,oK];exact h.size,λk hk=>?_⟩;by_cases hm:M k
  ·rw[yh hm,yh (Or.inl hm)];have h1:k<w'.heap.size:=lqQ hk h.size;simp[hk,h1]
  ·have hk':=h.keep k hk hm;rw[rg hm,rg (λe=>e.elim hm hk'.1)];exact hk'.2
 exact ((hr.keep hk hb).more hm h.size).sans hs (λ_ e=>.inr e)
def MH{α:Type}(R:aDQ α)(B n:Nat)(w:World)(e:List Value)(x:α):Prop:=∀ M:Nat->Prop,(∀ k,M k->B<=k/\k<n)->R (cU w M) w.heap.size e x
def dO{α:Type}(R:aDQ α)(sz B n:Nat)(w:World)(v:Value)(xs:List α):Prop:=∀ M:Nat->Prop,(∀ k,M k->B<=k/\k<n)->SlR R sz (cU w M) w.heap.size v xs
theorem MH.all{α:Type}{R:aDQ α}{B n:Nat}{w:World}{e:List Value}{x:α}(h:MH R B n w e x)(hs:ia R):R w w.heap.size e x:=hs.all (h (λ_=>False) (λ_ e=>e.elim))
theorem dO.all{α:Type}{R:aDQ α}{sz B n:Nat}{w:World}{v:Value}{xs:List α}(h:dO R sz B n w v xs)(hs:ia R):SlR R sz w w.heap.size v xs:=(h (λ_=>False) (λ_ e=>e.elim)).all hs

def Js(W:World)(B:Nat)(e:List Value)(x:Np.WorldP):Prop:=∃ (hv zv:Value) (s:ByteArray) (dv oy:Value),e = [hv,zv,.string s,.int .i64 x.anchor.type,.int .i64 x.anchor.life,dv,oy]/\s.data.toList=x.anchor.name/\s.size<=140737488355328/\
 SlR EY 3 W B hv x.hosts/\SlR EZ 3 W B zv x.zones/\SlR cm 3 W B dv x.anchor.data/\SlR oX 1 W B oy x.hints
theorem bwJ:dR Js:=λ_ _ _ _ _ ⟨hv,cv,s,dv,oy,h0,h1,h2,h3,h4,h5,h6⟩ hb=>⟨hv,cv,s,dv,oy,h0,h1,h2,h3.keep Uw hb,h4.keep UA hb,h5.keep bM hb,h6.keep L5 hb⟩
theorem bwK:ef Js:=λ_ _ _ _ _ ⟨hv,cv,s,dv,oy,h0,h1,h2,h3,h4,h5,h6⟩ hb=>⟨hv,cv,s,dv,oy,h0,h1,h2,h3.more Ux hb,h4.more UB hb,h5.more bY hb,h6.more L6 hb⟩
end
section
open Go.RowKit Go.Shelf

end
section
open Go.RowKit Go.MapKept
def lP(r:Nat)(ks:List (List UInt8))(w:World):Prop:=∃ kvs,jw r kvs w/\∀ x,kvs.lookup x=if x∈ks then some (.bool true) else none
theorem lP.keep{r:Nat}{ks:List (List UInt8)}{w w':World}{n:Nat}(h:lP r ks w)(hb:Below n w w')(hn:r<n):lP r ks w':=by
 obtain⟨kvs,h1,h2⟩:=h;exact⟨kvs,h1.keep hb hn,h2⟩
theorem lP.lt{r:Nat}{ks:List (List UInt8)}{w:World}(h:lP r ks w):r<w.heap.size:=by
 obtain⟨kvs,h1,_⟩:=h;exact h1.lt
theorem lP.made(w:World):lP w.heap.size [] (w.alloc (.map #[] 0)):=⟨[],jw.made w,λx=>by simp⟩
theorem TX(x k:List UInt8)(v:Value):∀ kvs:List (List UInt8×Value),(kvs ++ [(k,v)]).lookup x=(kvs.lookup x).or (if x=k then some v else none)
 | []=>by
   rw[List.nil_append,List.lookup_cons];by_cases h:x=k
   ·subst h;simp
   ·have:(x == k)=false:=by simpa using h
    rw[this];simp[h]
 | (y,u)::kvs=>by
   rw[List.cons_append,List.lookup_cons,List.lookup_cons]
   cases (x == y) with
   | true=>rfl
   | false=>exact TX x k v kvs
section
variable {P:Program} {ops:Array Oper} {rest:List Oper} {o:Oper} {a:Act} {Q:Exit->Act->World->Prop}
theorem bQK(w:World)(hg:o.guard=none)(m x v:Operand)(t:TypeId)(zJ:o.op=Op.mapUpdate t m x v)(kt et:TypeId)(ht:P.underlying t=some (.map kt et))(hk:P.underlying kt=some .string)
 (r:Nat) (ks:List (List UInt8)) (hm:a.eval m = .map (some r)) (hr:lP r ks w) (key:List UInt8) (hx:a.eval x=bB key) (hv:a.eval v = .bool true)
 (hK:∀ w',lP r (ks ++ [key]) w'->Turned r w w'->wpList P ops Q rest (a.put o.dst undef) w'):wpList P ops Q (o::rest) a w:=by
 obtain⟨kvs,hr,hl⟩:=hr;by_cases hin:key∈ks
 ·obtain⟨es,c,hr,he⟩:=hr;refine wpList_plain hg λK' hK'=>?_;have hc:(Instr.checkKey false 10000 kt (bB key)).run P w = .ok () w:=MapKept.run_checkKey (k:=bB key) hk (by simp[MapKept.IsKey]) false 9999;have ag:r<w.heap.size:=(eQ.1 hr).1;obtain⟨j',hj'⟩:=(JM key es.toList kvs 0 he).1 (.bool true) (by rw[hl,QbQ hin]);rcases ayJ key es.toList kvs 0 he with ⟨j,e,j1,j2,hf⟩ | hf
  ·rw[hj'] at hf;simp only[Option.some.injEq,Prod.mk.injEq,Nat.zero_add] at hf;obtain⟨rfl,hval⟩:=hf;have tF:(Instr.keyThatStays (((es[j']?).map (·.key)).getD (bB key)) (bB key)).run P w = .ok (bB key) w:=by
    rw[Array.getElem?_toList] at j1;rw[j1];simp only[Option.map_some,Option.getD_some];rw[j2];exact a8Z _ P w
   have jI:(Instr.mapUpdate t (.map (some r)) (bB key) (.bool true)).run P w = .ok () { w with heap:=w.heap.setIfInBounds r (.map (es.modify j' λe=>{ e with key:=bB key,val:=.bool true }) c) }:=by
    simp[Instr.mapUpdate,run_underlying ht,MapKept.run_getObj_map hr,hc,MapKept.run_findKey hk hj',tF,MapKept.run_setObj_map _ hr,Result.andThen]
   unfold Oper.wp;simp[execOp,zJ,hm,hx,hv,jI,Result.andThen];refine hK' _ _ (hK _ ⟨kvs,⟨es.modify j' λe=>{ e with key:=bB key,val:=.bool true },c,by simp[ag],?_⟩,λx=>?_⟩ ⟨rfl,rfl,rfl,by simp,λi hi=>by simp[Ne.symm hi]⟩)
   ·rw[<-he];apply List.ext_getElem?;intro i;simp only[List.getElem?_map];rw[Array.toList_modify,List.getElem?_modify];by_cases jD:j'=i
    ·subst jD;rw[j1];simp[j2,<-hval]
    ·simp[jD]
   ·rw[hl];by_cases fl:x∈ks
    ·rw[QbQ fl,QbQ (by simp[fl])]
    ·have:x≠key:=λe=>fl (e ▸ hin)
     rw[Qc fl,Qc (by simp[fl,this])]
  ·rw[hj'] at hf;cases hf
 ·refine Vx w hg m x v t zJ kt et ht hk r kvs hm hr key hx (.bool true) hv (by rw[hl,Qc hin]) λw' h1 h2=>hK w' ⟨_,h1,λx=>?_⟩ h2;rw[TX,hl];by_cases fl:x∈ks
  ·rw[QbQ fl,QbQ (show x∈ks ++ [key] by simp[fl])];rfl
  ·by_cases Gr:x=key
   ·rw[Qc fl,QbQ Gr,QbQ (show x∈ks ++ [key] by simp[Gr])];rfl
   ·rw[Qc fl,Qc Gr,Qc (show ¬ x∈ks ++ [key] by simp[fl,Gr])];rfl
end
theorem bvY{P:Program}(w:World)(t kt et:TypeId)(ht:P.underlying t=some (.map kt et))(hk:P.underlying kt=some .string)(r:Nat)(ks:List (List UInt8))(hr:lP r ks w)(key:List UInt8)(hz:(zeroValue et).run P w = .ok (.bool false) w) :
 (Instr.lookup t (.map (some r)) (bB key) false).run P w = .ok (.bool (ks.any λx=>x == key)) w:=by
 obtain⟨kvs,hr,hl⟩:=hr;rw[Ma w t kt et ht hk r kvs hr key _ hz,hl];by_cases h:key∈ks
 ·rw[QbQ h,List.any_eq_true.2 ⟨key,h,by simp⟩];rfl
 ·rw[Qc h,List.any_eq_false.2 (λx hx=>by simp;rintro rfl;exact h hx)];rfl
end
end Go.Proofs.YtadhigmjilijcaaGreatDoor
