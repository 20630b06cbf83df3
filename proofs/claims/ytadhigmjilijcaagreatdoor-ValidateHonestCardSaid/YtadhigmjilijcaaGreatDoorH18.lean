/- No condition. -/
import Derived.Test.YtadhigmjilijcaaGreatDoorH14
import Derived.Test.YtadhigmjilijcaaGreatDoorH15
set_option linter.all false
set_option maxRecDepth 100000
set_option maxHeartbeats 8000000
namespace Go.Proofs.YtadhigmjilijcaaGreatDoor
open Go.Proofs.Tryz
section
open Go.RowKit
theorem bwX{z:Np.Zone}(dJ:z.sets.length<=20000):Np.RZoneOk z↔((((Np.gh z=true/\Np.ApexH z.apex z.sets)/\Np.B0 z.sets)/\Np.rm z.sets (Np.eT z))/\Np.AH z.apex z.sets (Np.eT z)):=by
 constructor
 ·intro h;refine⟨⟨⟨⟨h.right,h.start,h.server,h.fits⟩,λk x hx p h0 hp he=>?_⟩,h.cuts⟩,λk x b hx hb=>⟨h.form x (gQ hx),λho=>?_⟩⟩
  ·obtain⟨hk,rfl⟩:=cQ.1 hx;obtain⟨dg,rfl⟩:=cQ.1 hp;obtain⟨m,rfl⟩:∃ m,k=m+1:=⟨k - 1,by omega⟩;exact h.three m hk he
  ·obtain⟨h1,h2⟩:=Ub.1 ho;exact h.sigs k x b hx hb h1 h2
 ·rintro⟨⟨⟨⟨h1,h2⟩,h3⟩,h4⟩,h5⟩;have cO:=Np.uH z;refine⟨h1,dJ,h2.start,h2.server,h2.fits,λi hi he=>?_,h4,λk x b hx hb eU ht=>(h5 k x b hx hb).2 (Ub.2 ⟨eU,ht⟩),λx hx=>?_⟩
  ·exact h3 (i+1) _ (aQ hi) _ (by omega) (aQ (by omega)) he
  ·obtain⟨k,hk,rfl⟩:=nQ.1 hx;exact (h5 k _ _ (aQ hk) (aQ (by omega))).1
theorem bqX(a:ByteArray)(ha:a.size<=140737488355328)(v:Value)(l:List Np.Signed)(dJ:l.length<=20000)(w:World)(hd:SlR az 5 w w.heap.size v l) :
 Calls prog 27 #[.agg #[.string a,v]] w (aCX w.heap.size w (.bool (Np.yes (Np.VZone ⟨a.data.toList,l⟩)))):=by
 obtain⟨r,hr⟩:=aaK (Np.yes (Np.VZone ⟨a.data.toList,l⟩));rw[hr];have HR:Hid (Np.yes ((((Np.gh ⟨a.data.toList,l⟩=true/\Np.ApexH a.data.toList l)/\Np.B0 l)/\Np.rm l (Np.eT ⟨a.data.toList,l⟩))/\Np.AH a.data.toList l (Np.eT ⟨a.data.toList,l⟩))=r):=jq (by
  rw[<-hr,Np.G1 (Np.bLQ _)];exact (Np.G1 (bwX (z:=⟨a.data.toList,l⟩) dJ)).symm)
 have HD:=jq hd;obtain⟨A,c,rfl,aR,cP⟩:=ba hd;clear hr hd;have HW:=blW w;go_enter func27,ntmps27;go_wp2_with fail;obtain⟨w1,ah⟩:=aaK (w.alloc (.cells #[.string a,.slice A l.length c] 66));have c0:w1.cell? ⟨w.heap.size,0,none⟩=some (.string a):=by rw[<-ah];simp[go_sem]
 have c1:w1.cell? ⟨w.heap.size,1,none⟩=some (.slice A l.length c):=by rw[<-ah];simp[go_sem]
 have bG:w1.heap.size=w.heap.size+1:=by rw[<-ah];simp
 have ay:Hid (Below w.heap.size w w1):=jq (by rw[<-ah];exact HW.out _);rw[ah];clear ah;refine (boY a ha _ l dJ _ (HD.out.later ax aK ay.out)).mono ?_;rintro e w2 ⟨rfl,ae⟩;have bL:=ae.size;have am:=aaZ ay ae;replace c0:=aaQ ae c0;replace c1:=aaQ ae c1;clear ae
 cases oD:Np.gh ⟨a.data.toList,l⟩ with
 | false=>
  have HX:Hid (r=false):=jq (by rw[<-HR.out];exact Np.eX λh=>by rw[oD] at h;cases h.1.1.1.1);clear oD;go_wp2_with fail;go_ret;exact⟨aj HX.out.symm,am.out⟩
 | true=>
  have IV:=jq oD;have ho:=Np.VZone.inOrder oD;have HO:=jq ho;have se:=oD;unfold Np.gh at se;simp only[Bool.and_eq_true] at se;have HV:Hid (∀ x∈l,Np.ai x.set.name=true):=jq (λx hx=>AB (Np.Fm se.2 x hx));have lE:Hid (∀ x∈l,x.set.name≠[]):=jq ho.name;clear oD se ho;go_wp2_with fail;refine (bqZ a _ l _ (HD.out.later ax aK am.out)).mono ?_;rintro e w3 ⟨rfl,aq⟩;have mh:=aq.size;have aw:=aaZ am aq;replace c0:=aaQ aq c0;replace c1:=aaQ aq c1;clear aq
  cases gV:Np.yes (Np.ApexH a.data.toList l) with
  | false=>
   have HX:Hid (r=false):=jq (by rw[<-HR.out];exact Np.eX λh=>ue gV h.1.1.1.2);clear gV;go_wp2_with fail;go_ret;exact⟨aj HX.out.symm,aw.out⟩
  | true=>
   have iY:=jq (Np.kw.1 gV);clear gV;go_wp2_with fail;refine (bqQ a _ l dJ lE.out _ (HD.out.later ax aK aw.out)).mono ?_;rintro e w4 ⟨rfl,aE⟩;have pw:=aE.size;have aX:=aaZ aw aE;replace c0:=aaQ aE c0;replace c1:=aaQ aE c1;clear aE
   cases Ga:Np.yes (Np.B0 l) with
   | false=>
    have HX:Hid (r=false):=jq (by rw[<-HR.out];exact Np.eX λh=>ue Ga h.1.1.2);clear Ga;go_wp2_with fail;go_ret;exact⟨aj HX.out.symm,aX.out⟩
   | true=>
    have mz:=jq (Np.kw.1 Ga);clear Ga;go_wp2_with fail;refine (boZ a _ l dJ HO.out HV.out _ (HD.out.later ax aK aX.out)).mono ?_;rintro e w5 ⟨rfl,aO⟩;have qU:=aO.size;have bx:=aaZ aX aO;replace c0:=aaQ aO c0;replace c1:=aaQ aO c1;clear aO
    cases nH:Np.yes (Np.rm l (Np.eT ⟨a.data.toList,l⟩)) with
    | false=>
     have HX:Hid (r=false):=jq (by rw[<-HR.out];exact Np.eX λh=>ue nH h.1.2);clear nH;go_wp2_with fail;go_ret;exact⟨aj HX.out.symm,bx.out⟩
    | true=>
     have oT:=jq (Np.kw.1 nH);clear nH;go_wp2_with fail;refine (boQ a _ l dJ HO.out HV.out _ (HD.out.later ax aK bx.out)).mono ?_;rintro e w6 ⟨rfl,bE⟩;have px:=bE.size;have bH:=aaZ bx bE;replace c0:=aaQ bE c0;replace c1:=aaQ bE c1;clear bE
     cases oC:Np.yes (Np.AH a.data.toList l (Np.eT ⟨a.data.toList,l⟩)) with
     | false=>
      have HX:Hid (r=false):=jq (by rw[<-HR.out];exact Np.eX λh=>ue oC h.2);clear oC;go_wp2_with fail;go_ret;exact⟨aj HX.out.symm,bH.out⟩
     | true=>
      have rt:=jq (Np.kw.1 oC);clear oC;go_wp2_with fail;go_ret;exact⟨aj (by rw[<-HR.out];exact (Np.gY ⟨⟨⟨⟨IV.out,iY.out⟩,mz.out⟩,oT.out⟩,rt.out⟩).symm),bH.out⟩


theorem GU(u v:Value)(xs:List Np.Signed)(w:World)(hu:SlR az 5 w w.heap.size u xs)(hv:SlR az 5 w w.heap.size v xs) :
 Calls prog 16 #[u,v] w (aCX w.heap.size w (.bool true)):=by
 have HU:=jq hu;have HV:=jq hv;obtain⟨A,c,rfl,aR,cP⟩:=ba hu;obtain⟨A2,c2,rfl,cH,ei⟩:=ba hv;clear hu hv;have zH:((xs.length:Int) != (xs.length:Int))=false:=by simp
 go_enter func16,ntmps16;go_wp2_with fail;go_loopw [5] (λi wr=>∃ k:Nat,k<=xs.length/\i = .int .i64 k/\Hid (Below w.heap.size w wr)) (λi _=>xs.length - (intOf i).toNat)
 case atStart=>exact⟨0,jQ _,rfl,jq (vQ _ _)⟩
 case round=>
  obtain⟨k,hk,rfl,HB⟩:=hrel;by_cases ag:k<xs.length
  ·obtain⟨b,o,c',s,dv,sv,hA,hb,_,hs,aB,aV,aZ,e0,e1,e2,e3,e4⟩:=dN (HU.out.later ax aK HB.out) (aQ ag)
   cases hA
   obtain⟨b2,o2,c2',s',dv',sv',hA,ae,_,hs',fK,CJ,K8,f0,f1,f2,f3,f4⟩:=dN (HV.out.later ax aK HB.out) (aQ ag);simp only[Value.slice.injEq] at hA;obtain⟨rfl,_,rfl⟩:=hA;have dM:s'=s:=iV (by rw[hs,hs']);subst dM;generalize xs[k]=x at *;have iX:=jq aV;have WW:=jq CJ;have pV:=jq aZ;have Y5:=jq K8;obtain⟨S1,m1,rfl,_,_⟩:=ba aZ;obtain⟨S2,m2,rfl,_,_⟩:=ba K8;obtain⟨D1,n1,rfl,_,_⟩:=ba aV;obtain⟨D2,n2,rfl,_,_⟩:=ba CJ;have df:=kNN k;have dg:(k:Int)<(xs.length:Int):=by omega
   have qC:∀ (g:ci wr) (p:Addr),p.block<wr.heap.size->g.w.cell? p=wr.cell? p:=λg p h=>g.cell p h;have bw:∀ g:ci wr,Calls prog 25 #[.agg #[.string s',.int .i64 x.set.type,.int .i64 x.set.life,.slice D1 x.set.data.length n1,.slice S1 x.sigs.length m1],.agg #[.string s',.int .i64 x.set.type,.int .i64 x.set.life,.slice D2 x.set.data.length n2,.slice S2 x.sigs.length m2]] g.w λe w'=>e = .returned (.bool true)/\Below g.w.heap.size g.w w':=λg=>
    (bxQ s' s' _ _ _ _ _ _ _ _ x.set.data x.set.data x.sigs x.sigs g.w (iX.out.later bM bY g.below) (WW.out.later bM bY g.below) (pV.out.later dG el g.below) (Y5.out.later dG el g.below)).mono λe w' h=>⟨by rw[h.1];simp,h.2⟩
   have nl:=jq bw;clear bw hs hs' aZ K8 aV CJ aB fK;go_wp2_with fail;refine adK ?_
   repeat (go_big_quiet_step ((go_at_call 25;exact Calls.grow_of (nl.out _))))
   refine wpQuiet_nil ?_;rintro _ ⟨g,rfl⟩;go_wp2_with fail;go_roundw
   case rel=>exact⟨k+1,by omega,by go_num,jq (HB.out.trans (g.below.mono HB.out.size))⟩
   ·simp[intOf]<;>omega
  ·go_wp2_with fail;go_ret;exact⟨rfl,HB.out⟩

def VK(ps:List (Np.Span×Np.Signed)):Prop:=∀ p∈ps,p.1.frm<p.1.til
theorem Mn{ps:List (Np.Span×Np.Signed)}(h:VK ps)(s:Np.Signed):Np.VL (Np.ym ps s):=λ_ ht=>h _ (Np.GD.1 ht)

end
end Go.Proofs.YtadhigmjilijcaaGreatDoor
