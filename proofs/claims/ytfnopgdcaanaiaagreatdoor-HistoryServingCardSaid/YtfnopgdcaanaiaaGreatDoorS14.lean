/- No condition. -/
import Derived.Test.YtfnopgdcaanaiaaGreatDoorS09
import Derived.Test.YtfnopgdcaanaiaaGreatDoorS10
set_option linter.all false
set_option maxRecDepth 100000
set_option maxHeartbeats 8000000
namespace Go.Proofs.YtfnopgdcaanaiaaGreatDoor
open Go.Proofs.Tryz
section
open Go.RowKit Go.Shelf
attribute [local go_sem] Oper.semAt_some
theorem Z6(A:Option Addr)(n c:Nat)(xs:List Np.Signed)(hv:∀ x∈xs,Np.al x.set.name=true)(nm:ByteArray)(hs:nm.size<=140737488355328)(vn:Np.al nm.data.toList=true)(V bv bn i:Nat)(hi:i<n)(hn:xs.length=n)(w:World)
 (hx:SlR br 5 w w.heap.size (.slice A n c) xs) (h1:w.cell? ⟨V,1,none⟩=some (.slice A n c)) (h2:w.cell? ⟨bv,0,none⟩=some (.pointer (some ⟨V,0,none⟩))) (h3:w.cell? ⟨bn,0,none⟩=some (.string nm)) :
 Calls prog 331 #[.int .i64 i,.pointer (some ⟨bv,0,none⟩),.pointer (some ⟨bn,0,none⟩)] w λe w'=>∃ b,e = .returned (.bool b)/\Below w.heap.size w w':=by
 obtain⟨x,iy⟩:∃ x,xs[i]?=some x:=⟨_,aQ (by omega)⟩;obtain⟨b,o,c',s,dv,sv,hA,b7,_,aD,fY,_,_,e0,_,_,_,_⟩:=dB hx iy;simp only[Value.slice.injEq] at hA;obtain⟨rfl,-,rfl⟩:=hA;have v1:Np.al s.data.toList=true:=by rw[aD];exact hv x (gQ iy)
 have VN:=jq vn;have V1:=jq v1;have HS:=jq (And.intro hs fY);have ki:(0:Int)<=(i:Int):=by omega
 have l3:(i:Int)<(n:Int):=by omega
 clear iy aD hv hx vn v1 hs fY;go_enter func331,ntmps331;go_upto_region 1 with fail
 go_region_with (go_at_call 332;refine (Sq s nm HS.out.2 HS.out.1 V1.out VN.out w.drew).mono ?_;rintro e w2 ⟨rfl,hb⟩;have ah:Hid (Below w.heap.size w w2):=jq ((vQ w.heap.size w).drew.trans hb);clear hb)
 all_goals
  go_wp2_with fail;go_ret;exact⟨_,rfl,ah.out⟩
theorem ZC:∀ args w,(callFunc 331 args).run prog w = .ok (.enter 331 args) w:=enters_of func331 (by kernel_rfl) rfl
theorem Z7(A:Option Addr)(n c:Nat)(xs:List Np.Signed)(hv:∀ x∈xs,Np.al x.set.name=true)(pR:n<=100000)(nm:ByteArray)(hs:nm.size<=140737488355328)(vn:Np.al nm.data.toList=true)(V:Nat)(hn:xs.length=n)(w:World)(hV:V<w.heap.size)
 (hx:SlR br 5 w w.heap.size (.slice A n c) xs) (h1:w.cell? ⟨V,1,none⟩=some (.slice A n c)) :
 Calls prog 266 #[.pointer (some ⟨V,0,none⟩),.string nm] w λe w'=>∃ b,e = .returned (.bool b)/\Below w.heap.size w w':=by
 have HX:=jq hx;have dV:=jq hv;have HN:=jq hn;have VN:=jq vn;have HS:=jq hs;obtain⟨G,hG⟩:=afZ w.heap.size;obtain⟨wa,bg⟩:=afZ (w.alloc (.cells #[.pointer (some ⟨V,0,none⟩)] 253));obtain⟨wb,eW⟩:=afZ (wa.alloc (.cells #[.string nm] 9));have ky:wa.heap.size=G+1:=by rw[<-bg];simp[hG]
 have iz:wb.heap.size=G+2:=by rw[<-eW];simp[ky]
 have dW:Below w.heap.size w wa:=by rw[<-bg];exact blAl
 have cW:Below wa.heap.size wa wb:=by rw[<-eW];exact blAl
 have KU:Below w.heap.size w wb:=dW.trans (cW.afK);have iD:=jq ((eb [.pointer (some ⟨V,0,none⟩)] 253 hG bg).keep cW (by omega));have o8:=jq (eb [.string nm] 9 ky eW);have HB:=jq KU;have H1:=jq h1;have k2:=iD.out 0 _ rfl;have k3:=o8.out 0 _ rfl;have k1:wb.cell? ⟨V,1,none⟩=some (.slice A n c):=(KU.cell (p:=⟨V,1,none⟩) hV).trans h1;clear hx hv hn vn hs dW cW KU h1;go_enter func266,ntmps266;go_wp2_with fail;clear bg eW k1 k2 k3;refine (bcK 331 #[.pointer (some ⟨G,0,none⟩),.pointer (some ⟨G+1,0,none⟩)] n (by omega) wb ZC (λi w' hi hb=>?_)).mono ?_
 ·have fm:=HB.out.trans (hb.mono HB.out.size)
  have:=Z6 A n c xs dV.out nm HS.out VN.out V G (G+1) i hi HN.out w' (HX.out.later aP bK fm) ((fm.cell (p:=⟨V,1,none⟩) hV).trans H1.out) (iD.out.keep hb (by omega) 0 _ rfl) (o8.out.keep hb (by omega) 0 _ rfl)
  simpa using this
 rintro e w4 ⟨i,hi,rfl,ar⟩;have fz:=ar.size;have bi:=jq (HB.out.trans (ar.mono HB.out.size));have k1:w4.cell? ⟨V,1,none⟩=some (.slice A n c):=(bi.out.cell (p:=⟨V,1,none⟩) hV).trans H1.out;have k2:=iD.out.keep ar (by omega) 0 _ rfl;have k3:=o8.out.keep ar (by omega) 0 _ rfl;clear ar;by_cases ab:i<n
 ·obtain⟨x,iy⟩:∃ x,xs[i]?=some x:=⟨_,aQ (by rw[HN.out];exact ab)⟩;obtain⟨b,o,c',s,dv,sv,hA,b7,_,aD,fY,_,_,e0,_,_,_,_⟩:=dB (HX.out.later aP bK bi.out) iy;simp only[Value.slice.injEq] at hA;obtain⟨rfl,-,rfl⟩:=hA;have V1:Hid (Np.al s.data.toList=true):=jq (by rw[aD];exact dV.out x (gQ iy));have iZ:=jq fY;have hd:decide ((i:Int)<(n:Int))=true:=agQ;have ki:(0:Int)<=(i:Int):=by omega
  have l3:(i:Int)<(n:Int):=by omega
  clear iy aD fY ab;go_upto_region 2 with fail
  go_region_with (go_at_call 264;refine (St s nm iZ.out HS.out V1.out VN.out w4.drew).mono ?_;rintro e w5 ⟨rfl,hb⟩;have cg:Hid (Below w.heap.size w w5):=jq (bi.out.drew.trans (hb.mono bi.out.size));clear hb)
  all_goals
   go_wp2_with fail;go_ret;exact⟨_,rfl,cg.out⟩
 ·have hd:decide ((i:Int)<(n:Int))=false:=afY;have l3:¬ (i:Int)<(n:Int):=by omega
  have lZ:decide (i<n)=false:=tQ ab;clear ab;go_wp2_with fail;go_quiet (fail);go_wp2_with fail;go_ret;exact⟨_,rfl,below_drewN bi.out _⟩
end
section
open Go.RowKit Go.Shelf
attribute [local go_sem] Oper.semAt_some
def Np.K7(xs:List Np.Signed)(i:Nat):List UInt8:=((xs[i]?).map (·.set.name)).getD []
def Np.upP(xs:List Np.Signed)(nm:List UInt8)(i:Nat):Bool:=decide (0<Np.aL (Np.K7 xs i) nm)
def Np.lU(k j:Nat):List Int:=(List.range j).map λ(i:Nat)=>(k:Int) - 1 - i
theorem Np.Pa(k j:Nat):Np.lU k (j+1)=Np.lU k j ++ [(k:Int) - 1 - j]:=by simp[Np.lU,List.range_succ]
theorem Np.Zu(k j:Nat)(h:j<=k):Np.lU k j <+: Np.lU k k:=by
 obtain⟨d,rfl⟩:∃ d,k=j+d:=⟨k - j,by omega⟩;unfold Np.lU;rw[List.range_add,List.map_append];exact List.prefix_append _ _
def tw(w:World)(D:Nat->Prop)(A:Option Addr)(n:Nat)(xs:List Np.Signed):Prop:=∀ i,i<n->∃ (b o:Nat) (s:ByteArray) (ty:Int),A=some ⟨b,o,none⟩/\D b/\s.data.toList=Np.K7 xs i/\s.size<=140737488355328/\Np.al s.data.toList=true/\w.cell? ⟨b,o+i * 5,none⟩=some (.string s)/\w.cell? ⟨b,o+i * 5+1,none⟩=some (.int .i64 ty)
theorem Sy{w:World}{B n c:Nat}{A:Option Addr}{xs:List Np.Signed}(hv:∀ x∈xs,Np.al x.set.name=true)(hn:xs.length=n)(hx:SlR br 5 w B (.slice A n c) xs){D:Nat->Prop}(hD:∀ k,k<B->D k):tw w D A n xs:=λi hi=>by
 obtain⟨x,iy⟩:∃ x,xs[i]?=some x:=⟨_,aQ (by omega)⟩;obtain⟨b,o,c',s,dv,sv,hA,b7,_,aD,fY,_,_,e0,e1,_,_,_⟩:=dB hx iy;simp only[Value.slice.injEq] at hA;obtain⟨rfl,-,rfl⟩:=hA;exact⟨b,o,s,_,rfl,hD b b7,by rw[aD];unfold Np.K7;rw[iy];rfl,fY,by rw[aD];exact hv x (gQ iy),e0,e1⟩
theorem tw.keeps{w W:World}{D:Nat->Prop}{A:Option Addr}{n:Nat}{xs:List Np.Signed}(h:tw w D A n xs)(hk:dI D w W):tw W D A n xs:=λi hi=>by
 obtain⟨b,o,s,ty,h1,h2,h3,h4,h5,h6,h7⟩:=h i hi;exact⟨b,o,s,ty,h1,h2,h3,h4,h5,(hk.cell (p:=⟨b,o+i * 5,none⟩) h2).trans h6,(hk.cell (p:=⟨b,o+i * 5+1,none⟩) h2).trans h7⟩
theorem bmJ(D:Nat->Prop)(A:Option Addr)(n c:Nat)(xs:List Np.Signed)(nm:ByteArray)(hs:nm.size<=140737488355328)(vn:Np.al nm.data.toList=true)(V bv bn i:Nat)(hi:i<n)(w:World)
 (hx:tw w D A n xs) (h1:w.cell? ⟨V,1,none⟩=some (.slice A n c)) (h2:w.cell? ⟨bv,0,none⟩=some (.pointer (some ⟨V,0,none⟩))) (h3:w.cell? ⟨bn,0,none⟩=some (.string nm)) :
 Calls prog 357 #[.int .i64 i,.pointer (some ⟨bv,0,none⟩),.pointer (some ⟨bn,0,none⟩)] w (ahZ w.heap.size w (.bool (Np.upP xs nm.data.toList i))):=by
 obtain⟨b,o,s,ty,rfl,_,aD,fY,v1,e0,_⟩:=hx i hi;have Kw:Np.upP xs nm.data.toList i=decide (0<Np.aL s.data.toList nm.data.toList):=by unfold Np.upP;rw[aD]
 obtain⟨pp,QX⟩:=afZ (Np.upP xs nm.data.toList i);rw[QX] at Kw |-;have HP:=jq Kw;have VN:=jq vn;have V1:=jq v1;have HS:=jq (And.intro hs fY);have ki:(0:Int)<=(i:Int):=by omega
 have l3:(i:Int)<(n:Int):=by omega
 clear aD hx vn v1 hs fY Kw QX;go_enter func357,ntmps357;go_upto_region 1 with fail
 go_region_with (go_at_call 332;refine (Sq s nm HS.out.2 HS.out.1 V1.out VN.out w.drew).mono ?_;rintro e w2 ⟨rfl,hb⟩;have ah:Hid (Below w.heap.size w w2):=jq ((vQ w.heap.size w).drew.trans hb);clear hb)
 all_goals
  go_wp2_with fail;go_ret;exact⟨by rw[HP.out];rfl,ah.out⟩
theorem ZG:∀ args w,(callFunc 357 args).run prog w = .ok (.enter 357 args) w:=enters_of func357 (by kernel_rfl) rfl
def X5(k:Nat)(J:List Int->(Nat->Prop)->World->Prop)(S:Nat->Prop)(W:World)(v:Value)(wr:World):Prop:=
 ∃ (j:Nat) (S1:Nat->Prop),v = .int .i64 ((k:Int) - 1 - j)/\j<=k/\J (Np.lU k j) S1 wr/\(∀ i,S1 i->i<wr.heap.size)/\(∀ i,S1 i->S i\/W.heap.size<=i)/\W.heap.size<=wr.heap.size
theorem bmX(D:Nat->Prop)(A:Option Addr)(n c:Nat)(xs:List Np.Signed)(pR:n<=100000)(nm:ByteArray)(hs:nm.size<=140737488355328)(vn:Np.al nm.data.toList=true)(V bv bn:Nat)(w:World)(hV:D V)(eC:D bv)(im:D bn)
 (hx:tw w D A n xs) (h1:w.cell? ⟨V,1,none⟩=some (.slice A n c)) (h2:w.cell? ⟨bv,0,none⟩=some (.pointer (some ⟨V,0,none⟩))) (h3:w.cell? ⟨bn,0,none⟩=some (.string nm)) :
 Bb prog 356 (λy=>#[y,.pointer (some ⟨bv,0,none⟩),.pointer (some ⟨bn,0,none⟩)]) (λx:Int=>#[.int .i64 x]) (Np.lU (Np.kG (Np.upP xs nm.data.toList) 0 n) (Np.kG (Np.upP xs nm.data.toList) 0 n)) D w:=by
 intro l J Jx S W hW hJ Js hY hS hS' h0;have HX:=jq hx;have VN:=jq vn;have HS:=jq hs;have x7:=jq h1;have x8:=jq h2;have Hd:=jq h3;have HW:=jq hW;have qM:=hW.1;have k1:=(hW.cell (p:=⟨V,1,none⟩) hV).trans h1;have k2:=(hW.cell (p:=⟨bv,0,none⟩) eC).trans h2;obtain⟨k,hk⟩:=afZ (Np.kG (Np.upP xs nm.data.toList) 0 n);have HK:=jq hk;have nB:k<=n:=by rw[<-hk];exact Np.Gf _ n 0 n (by omega) (by omega)
 rw[hk] at hY |-;clear hx vn hs h1 h2 h3 hW hk;refine callsIn_of_wp func356 rfl trivial ?_ rfl;simp only[ntmps356,List.size_toArray,List.length_cons,List.length_nil,Nat.reduceAdd,Nat.reduceSub,Array.replicate_succ,Array.replicate_zero,List.push_toArray,List.append_toArray,List.nil_append,List.cons_append];gi_wp2_with fail;refine⟨trivial,rfl,(callsIn_wide.2 (bcJ (Np.upP xs nm.data.toList) 357 #[.pointer (some ⟨bv,0,none⟩),.pointer (some ⟨bn,0,none⟩)] n (by omega) W ZG (λi w' hi hb=>?_))).mono ?_⟩
 ·have fm:dI D w w':=HW.out.of_below hb
  have:=bmJ D A n c xs nm HS.out VN.out V bv bn i hi w' (HX.out.keeps fm) ((fm.cell (p:=⟨V,1,none⟩) hV).trans x7.out) ((fm.cell (p:=⟨bv,0,none⟩) eC).trans x8.out) ((fm.cell (p:=⟨bn,0,none⟩) im).trans Hd.out)
  simpa using this
 rw[HK.out];rintro e W2 ⟨rfl,aa⟩;have aO:=aa.size;have hJ2:=hJ _ _ _ _ h0 ⟨aa.os,aa.tape,aa.output,aa.size,λq hq _=>aa.block q hq⟩;clear aa k1 k2 h0;gi_wp2_with fail;gi_loopw [5] (λv wr=>X5 k J S W v wr) (λv _=>(intOf v+1).toNat)
 case atStart=>
  exact⟨0,S,by simp,jQ _,hJ2,λi e=>by have:=hS' i e;omega,λ_ e=>.inl e,aO⟩
 case round=>
  obtain⟨j,S1,rfl,hj,Jq,dG,bR,Fj⟩:=hrel;by_cases ab:j<k
  ·have h5:(0:Int)<=(k:Int) - 1 - j:=by omega
   have bM:Np.lU k j ++ [(k:Int) - 1 - j] <+: Np.lU k k:=by rw[<-Np.Pa];exact Np.Zu k (j+1) (by omega)
   obtain⟨fn,tmps,assign,body,hy,hR⟩:=hY (Np.lU k j) ((k:Int) - 1 - j) S1 wr bM Jq dG Fj;have HP:=jq bM;clear bM;obtain⟨q,hq⟩:=afZ ((k:Int) - 1 - j);rw[hq] at hR h5
   try rw[hq] at hy
   have hy':=hy
   try simp only[hq] at hy'
   have HQ:=jq hq;have az:q<=100000:=by omega
   simp only[hq];clear hq;gi_wp2_with fail;refine⟨rfl,hR.mono ?_⟩;rintro e W3 ⟨S3,bJ,uj,ua,(⟨rfl,Bz⟩ | ⟨rfl,BA⟩)⟩
   ·have dR:=bJ.size;gi_wp2_with fail;go_roundw
    case rel=>
     refine⟨j+1,S3,?_,by omega,?_,ua,λi e=>?_,by omega⟩
     ·have:=HQ.out;simp;omega
     ·rw[Np.Pa,HQ.out];exact Bz
     ·rcases uj _ e with e | e
      ·exact bR _ e
      ·right;omega
    case measure=>simp[intOf]<;>omega
   ·gi_wp2_with fail;refine bodyPost_ret (results_none rfl _ _ _) rfl ?_;refine⟨⟨_,rfl⟩,.inr ⟨_,S3,(show Np.lU k j ++ [q] <+: Np.lU k k by rw[<-HQ.out];exact HP.out),BA,λi e=>?_⟩⟩;rcases uj _ e with e | e
    ·exact bR _ e
    ·right;omega
  ·obtain rfl:j=k:=by omega
   have h5:¬ (0:Int)<=(j:Int) - 1 - j:=by omega
   gi_wp2_with fail;go_end0;exact⟨⟨_,rfl⟩,.inl ⟨S1,Jq,bR⟩⟩
end
section
open Go.RowKit Go.Shelf
attribute [local go_sem] Oper.semAt_some
theorem bmK(nm:ByteArray)(V:Nat)(w:World) :
 Calls prog 333 #[.pointer (some ⟨V,0,none⟩),.string nm] w λe w'=>∃ g:Nat,e = .returned (.func (.func 356) #[] #[.pointer (some ⟨g,0,none⟩),.pointer (some ⟨g+1,0,none⟩)])/\w.heap.size<=g/\g+1<w'.heap.size/\ic w' g [.pointer (some ⟨V,0,none⟩)]/\ic w' (g+1) [.string nm]/\Below w.heap.size w w':=by
 obtain⟨wa,bg⟩:=afZ (w.alloc (.cells #[.pointer (some ⟨V,0,none⟩)] 253));obtain⟨wb,eW⟩:=afZ (wa.alloc (.cells #[.string nm] 9));have ky:wa.heap.size=w.heap.size+1:=by rw[<-bg];simp
 have iz:wb.heap.size=w.heap.size+2:=by rw[<-eW];simp[ky]
 have dW:Below w.heap.size w wa:=by rw[<-bg];exact blAl
 have cW:Below wa.heap.size wa wb:=by rw[<-eW];exact blAl
 have HB:=jq (dW.trans (cW.afK));have mS:=jq ((eb [.pointer (some ⟨V,0,none⟩)] 253 rfl bg).keep cW (by omega));have iD:=jq (eb [.string nm] 9 ky eW);clear dW cW;go_enter func333,ntmps333;go_wp2_with fail;go_ret;exact⟨w.heap.size,rfl,bQ _,by omega,mS.out,iD.out,HB.out⟩
def L4(w2:World)(b:Nat)(_:List Int)(S:Nat->Prop)(W:World):Prop:=(∀ k,S k↔k=b)/\Boxed W b 3 (.int .i64 0)/\Below b w2 W
def L5(w2:World)(b n:Nat)(c:Code)(_:List Int)(S:Nat->Prop)(W:World):Prop:=c = .ret/\(∀ k,S k↔k=b)/\(∃ q:Int,0<=q/\q<n/\Boxed W b 3 (.int .i64 q))/\Below b w2 W
theorem OX{w2:World}{b B:Nat}(hb:b<=B)(hw:b<=w2.heap.size):fO B (L4 w2 b):=by
 rintro s S W W' ⟨hS,h1,h2⟩ ax;exact⟨hS,iK h1 ax ((hS _).2 rfl),qF h2 ax hb hw⟩
theorem Zb{w2:World}{b n B:Nat}(hb:b<=B)(hw:b<=w2.heap.size)(c:Code):fO B (L5 w2 b n c):=by
 rintro s S W W' ⟨hc,hS,⟨q,h0,h1,h2⟩,h3⟩ ax;exact⟨hc,hS,⟨q,h0,h1,iK h2 ax ((hS _).2 rfl)⟩,qF h3 ax hb hw⟩
theorem Zc(A:Option Addr)(n c:Nat)(xs:List Np.Signed)(hv:∀ x∈xs,Np.al x.set.name=true)(pR:n<=100000)(nm:ByteArray)(hs:nm.size<=140737488355328)(vn:Np.al nm.data.toList=true)(V:Nat)(hn:xs.length=n)(w:World)(hV:V<w.heap.size)
 (hx:SlR br 5 w w.heap.size (.slice A n c) xs) (h1:w.cell? ⟨V,1,none⟩=some (.slice A n c)) :
 Calls prog 268 #[.pointer (some ⟨V,0,none⟩),.string nm] w λe w'=>∃ q:Int,-1<=q/\q<n/\e = .returned (.int .i64 q)/\Below w.heap.size w w':=by
 have HX:=jq hx;have dV:=jq hv;have HN:=jq hn;have VN:=jq vn;have HS:=jq hs;have H1:=jq h1;obtain⟨G,hG⟩:=afZ w.heap.size;obtain⟨wa,bg⟩:=afZ (w.alloc (.cells #[.pointer (some ⟨V,0,none⟩)] 253));have ky:wa.heap.size=G+1:=by rw[<-bg];simp[hG]
 have dW:Below w.heap.size w wa:=by rw[<-bg];exact blAl
 obtain⟨wb,eW⟩:=afZ (wa.alloc (.cells #[.int .i64 0] 3));have iz:wb.heap.size=G+2:=by rw[<-eW];simp[ky]
 have cW:Below wa.heap.size wa wb:=by rw[<-eW];exact blAl
 have HB:=jq (dW.trans (cW.afK));have HC:=jq ((eb [.pointer (some ⟨V,0,none⟩)] 253 hG bg).keep cW (by omega));have fe:Hid (Boxed wb (G+1) 3 (.int .i64 0)):=jq (by
  have:=Boxed.new wa 3 (.int .i64 0)
  rw[ky,eW] at this;exact this)
 have k0:=HC.out 0 _ rfl;clear hx hv hn vn hs dW cW h1;refine (callsIn_wide (n:=0)).1 ?_;refine callsIn_of_wp_marks func268 rfl trivial ?_ rfl;simp only[ntmps268,List.size_toArray,List.length_cons,List.length_nil,Nat.reduceAdd,Nat.reduceSub,Array.replicate_succ,Array.replicate_zero,List.push_toArray,List.append_toArray,List.nil_append,List.cons_append];gi_wp2_with fail;refine⟨trivial,rfl,?_⟩;refine (callsIn_wide.2 (bmK nm V wb)).mono ?_;rintro e w2 ⟨g,rfl,hg,EU,bw,dE,aa⟩;have aO:=aa.size;have ah:=jq (HB.out.trans (aa.mono HB.out.size));have tf:=jq (ahQ fe.out aa);have mS:=jq bw;have iD:=jq dE;have Kt:=HC.out.keep aa (by omega);have vl:=jq Kt;clear bw dE aa k0 bg eW Kt;gi_wp2_with fail;obtain⟨D,hD⟩:∃ D:Nat->Prop,(λk=>k<w2.heap.size/\k≠G+1)=D:=⟨_,rfl⟩;have HD:Hid (∀ k,D k↔k<w2.heap.size/\k≠G+1):=jq (λk=>by rw[<-hD]);clear hD;have Wq:Hid (tw w2 D A n xs):=jq (Sy dV.out HN.out (HX.out.keep aP ah.out) (λq hq=>(HD.out q).2 ⟨by omega,by omega⟩));have ry:Hid (tw w2 (λq=>q<G) A n xs):=jq (Sy dV.out HN.out (HX.out.keep aP ah.out) (λq hq=>by omega));have V7:Hid (∀ x∈Np.lU (Np.kG (Np.upP xs nm.data.toList) 0 n) (Np.kG (Np.upP xs nm.data.toList) 0 n),0<=x/\x<n):=jq (λx hx=>by
  have fF:=Np.Gf (Np.upP xs nm.data.toList) n 0 n (by omega) (by omega);unfold Np.lU at hx;simp only[List.mem_map,List.mem_range] at hx;obtain⟨i,hi,rfl⟩:=hx;omega)
 refine Dd (Dr:=D) (w0:=w2) (first:=#[]) (captured:=#[.pointer (some ⟨g,0,none⟩),.pointer (some ⟨g+1,0,none⟩)]) (gf:=356) rfl (enters_of func356 (by kernel_rfl) rfl) (mk:=λy=>#[y,.pointer (some ⟨g,0,none⟩),.pointer (some ⟨g+1,0,none⟩)]) (λ_=>rfl)
  (bmX D A n c xs pR nm HS.out VN.out V g (g+1) w2 ((HD.out _).2 ⟨by omega,by omega⟩) ((HD.out _).2 ⟨by omega,by omega⟩) ((HD.out _).2 ⟨by omega,by omega⟩) Wq.out ((ah.out.cell (p:=⟨V,1,none⟩) hV).trans H1.out) (mS.out 0 _ rfl) (iD.out 0 _ rfl))
  (dI.refl (λq e=>((HD.out q).1 e).1)) (λ_=>rfl) (L4 w2 (G+1)) (L5 w2 (G+1) n) (OX (by omega) (by omega)) (λc=>Zb (by omega) (by omega) c)
  (λk=>k=G+1) (λk e h=>((HD.out k).1 h).2 e) (λk e=>by omega) ⟨λ_=>Iff.rfl,tf.out,vQ _ _⟩ ?round ?done ?stop
 case round=>
  rintro l0 pre x S W bM hI ed;gi_wp2;refine⟨S,RdStep.refl _ _,λk e=>.inl e,ed,?_⟩;intro l W₂ ax;obtain⟨hS,c0,hB⟩:=OX (b:=G+1) (w2:=w2) (by omega) (by omega) pre S W W₂ hI ax;obtain⟨eG,dO⟩:=V7.out x (bM.subset (by simp));obtain⟨i,rfl⟩:∃ i:Nat,x=(i:Int):=⟨x.toNat,by omega⟩;obtain⟨b,o,s,ty,rfl,hbG,_,_,_,_,e1⟩:=ry.out i (by omega);have k0:=aeK hB (vl.out 0 _ rfl);have k1:=aeK hB ((ah.out.cell (p:=⟨V,1,none⟩) hV).trans H1.out);have k2:=aeK hB e1;have c0c:=c0.cell;have c0f:=c0.frozen;have qr:=jq c0;have da:=jq hB;have iM:∀ k,S k->k<W₂.heap.size:=λk e=>lQ (ed k e) ax.size;clear hI ax e1 c0 hB bM;by_cases h8:ty=8
  ·have h8b:(ty == 8)=true:=by simpa using h8
   gi_wp2_with fail;refine⟨S,(RdStep.refl S W₂).setCell (p:=⟨G+1,0,none⟩) (.inl ((hS _).2 rfl)) _,λ_ e=>.inl e,λq e=>by have:=iM q e;simp[World.setCell];omega,rfl,hS,⟨i,by omega,by omega,qr.out.set _⟩,da.out.blSe _⟩
  ·have h8b:(ty == 8)=false:=by simpa using h8
   gi_wp2_with fail;refine⟨S,RdStep.refl S W₂,λ_ e=>.inl e,iM,hS,qr.out,da.out⟩
 case done=>
  rintro D2 S W hD el bR ⟨hS,c0,hB⟩ hK;have rM:G+1≠D2:=λe=>el ((hS _).2 e.symm);have c0c:=c0.cell;have c0f:=c0.frozen;have qr:=jq c0;have aS:=aeX ah hB;have PE:(W.setCell ⟨G+1,0,none⟩ (.int .i64 (-1))).heap[D2]?=some (.deferred (some [])):=(wQ _ _ _ _ (λe=>rM e.symm)).trans hK;have ru:=jq PE;clear c0 hB hK PE;gi_wp2_with fail;have d0:=(rJ (qr.out.set (.int .i64 (-1))) rM (.deferred none)).cell;exact mv ru.out (v:=.int .i64 (-1)) (by simp[results,results268,go_sem,d0]) ⟨-1,by omega,by omega,rfl,lT (aS.out.blSe _) (by omega) _⟩
 case stop=>
  rintro D2 cc pre S W hD el bR g8 ⟨rfl,hS,⟨q,h0,h1,c0⟩,hB⟩ hK;have rM:G+1≠D2:=λe=>el ((hS _).2 e.symm);have aS:=aeX ah hB;have ru:=jq hK;clear hB hK;gi_wp2_with fail;have d0:=(rJ c0 rM (.deferred none)).cell;exact mv ru.out (v:=.int .i64 q) (by simp[results,results268,go_sem,d0]) ⟨q,by omega,h1,rfl,lT aS.out (by omega) _⟩
end
section
open Go.ChangeShapes Go.WideShapes Go.ChangeAt Go.RowKit Go.Deep
def rH{α:Type}(R:aiQ α)(P:α->Prop)(W:World)(B:Nat)(e:List Value)(x:α):Prop:=R W B e x/\P x
theorem SlR.both{α:Type}{R:aiQ α}{P:α->Prop}{sz:Nat}{W:World}{B:Nat}{v:Value}{xs:List α}(h:SlR (rH R P) sz W B v xs):SlR R sz W B v xs/\∀ x∈xs,P x:=by
 obtain⟨A,c,h1,h2,h3,h4⟩:=h;refine⟨⟨A,c,h1,h2,h3,λi x hx=>?_⟩,λx hx=>?_⟩
 ·obtain⟨b,o,e,k1,k2,k3,k4,k5,_⟩:=h4 i x hx;exact⟨b,o,e,k1,k2,k3,k4,k5⟩
 ·obtain⟨i,hi⟩:=List.mem_iff_getElem?.1 hx;obtain⟨b,o,e,_,_,_,_,_,k⟩:=h4 i x hi;exact k
def Ok(g:Np.Sig):Prop:=0<=g.sum/\g.sum<18446744073709551616
def Om(z:Np.Zone):Prop:=∀ s∈z.sets,Np.yv s
def Ol(c:Np.Copy):Prop:=Om c.zone
theorem blJ{x:Int}(h:(Lit.int .u64 x).wf=true):0<=x/\x<18446744073709551616:=by
 have:=bounds_u64 h
 omega
theorem YM:prog.cellsOf 24=1:=by kernel_rfl
theorem YQ:prog.cellsOf 40=1:=by kernel_rfl
theorem YR:prog.cellsOf 36=1:=by kernel_rfl
theorem YS:prog.cellsOf 48=1:=by kernel_rfl
theorem OL:prog.cellsOf 26=4:=by kernel_rfl
theorem YT:prog.cellsOf 44=2:=by kernel_rfl
theorem YN:prog.cellsOf 22=1:=by kernel_rfl
theorem YL:prog.cellsOf 23=1:=by kernel_rfl
theorem YO:prog.cellsOf 27=1:=by kernel_rfl
def RSet(W:World)(B:Nat)(e:List Value)(x:Np.DSet):Prop:=∃ (s:ByteArray) (v:Value),s.data.toList=x.name/\s.size<=140737488355328/\SlR ci 3 W B v x.data/\e = [.string s,.int .i64 x.type,.int .i64 x.life,v]
theorem a1Z:iI prog 128 3 ci:=by
 intro H enc W base spare held fuel cs d ps h hw;obtain⟨hl,hf⟩:=uw underlying128 h hw;have hl':cs.length=3:=hl.trans (by kernel_rfl);clear hl
 match cs,hl' with
 | [c0,c1,c2],_=>
  obtain⟨n0,d0,p0,t0,w0⟩:=hf 0 _ rfl;have t0':DataW.trod enc prog W base spare held n0 9 (([c0,c1,c2].drop 0).take (prog.cellsOf 9))=some (d0,p0):=t0;rw[Bj] at t0';have u0:DataW.trod enc prog W base spare held n0 9 [c0]=some (d0,p0):=t0';obtain⟨n1,d1,p1,t1,w1⟩:=hf 1 _ rfl;have t1':DataW.trod enc prog W base spare held n1 3 (([c0,c1,c2].drop 1).take (prog.cellsOf 3))=some (d1,p1):=t1;rw[iL] at t1';have u1:DataW.trod enc prog W base spare held n1 3 [c1]=some (d1,p1):=t1';obtain⟨n2,d2,p2,t2,w2⟩:=hf 2 _ rfl;have t2':DataW.trod enc prog W base spare held n2 3 (([c0,c1,c2].drop 2).take (prog.cellsOf 3))=some (d2,p2):=t2;rw[iL] at t2';have u2:DataW.trod enc prog W base spare held n2 3 [c2]=some (d2,p2):=t2';obtain⟨_,_,s0,_,iR,eG⟩:=C2 underlying9 H enc W base spare held n0 _ _ _ u0 w0;obtain rfl:c0 = .string s0:=by simpa using eG
  obtain⟨_,x1,dO,wf1⟩:=kD underlying3 H enc W base spare held n1 _ _ _ u1 w1;obtain rfl:c1 = .int .i64 x1:=by simpa using dO
  obtain⟨_,x2,oJ,wf2⟩:=kD underlying3 H enc W base spare held n2 _ _ _ u2 w2;obtain rfl:c2 = .int .i64 x2:=by simpa using oJ
  exact⟨rfl,⟨s0.data.toList,x1,x2⟩,s0,rfl,iR,rfl⟩
theorem a1Q:iI prog 24 1 (RSl ci 3):=zG underlying24 (by kernel_rfl) (by decide) (of_decide_eq_true (by kernel_rfl)) a1Z
theorem Tf:iI prog 26 4 RSet:=by
 intro H enc W base spare held fuel cs d ps h hw;obtain⟨hl,hf⟩:=uw underlying26 h hw;have hl':cs.length=4:=hl.trans (by kernel_rfl);clear hl
 match cs,hl' with
 | [c0,c1,c2,c3],_=>
  obtain⟨n0,d0,p0,t0,w0⟩:=hf 0 _ rfl;have t0':DataW.trod enc prog W base spare held n0 9 (([c0,c1,c2,c3].drop 0).take (prog.cellsOf 9))=some (d0,p0):=t0;rw[Bj] at t0';have u0:DataW.trod enc prog W base spare held n0 9 [c0]=some (d0,p0):=t0';obtain⟨n1,d1,p1,t1,w1⟩:=hf 1 _ rfl;have t1':DataW.trod enc prog W base spare held n1 3 (([c0,c1,c2,c3].drop 1).take (prog.cellsOf 3))=some (d1,p1):=t1;rw[iL] at t1';have u1:DataW.trod enc prog W base spare held n1 3 [c1]=some (d1,p1):=t1';obtain⟨n2,d2,p2,t2,w2⟩:=hf 2 _ rfl;have t2':DataW.trod enc prog W base spare held n2 3 (([c0,c1,c2,c3].drop 2).take (prog.cellsOf 3))=some (d2,p2):=t2;rw[iL] at t2';have u2:DataW.trod enc prog W base spare held n2 3 [c2]=some (d2,p2):=t2';obtain⟨n3,d3,p3,t3,w3⟩:=hf 3 _ rfl;have t3':DataW.trod enc prog W base spare held n3 24 (([c0,c1,c2,c3].drop 3).take (prog.cellsOf 24))=some (d3,p3):=t3;rw[YM] at t3';have u3:DataW.trod enc prog W base spare held n3 24 [c3]=some (d3,p3):=t3';obtain⟨_,_,s0,_,iR,eG⟩:=C2 underlying9 H enc W base spare held n0 _ _ _ u0 w0;obtain rfl:c0 = .string s0:=by simpa using eG
  obtain⟨_,x1,dO,wf1⟩:=kD underlying3 H enc W base spare held n1 _ _ _ u1 w1;obtain rfl:c1 = .int .i64 x1:=by simpa using dO
  obtain⟨_,x2,oJ,wf2⟩:=kD underlying3 H enc W base spare held n2 _ _ _ u2 w2;obtain rfl:c2 = .int .i64 x2:=by simpa using oJ
  obtain⟨_,x3,v3,uo,KF⟩:=a1Q H enc W base spare held n3 _ _ _ u3 w3;obtain rfl:c3=v3:=by simpa using uo
  exact⟨rfl,⟨s0.data.toList,x1,x2,x3⟩,s0,_,rfl,iR,KF,rfl⟩
theorem a2Z:iI prog 50 6 (rH fi Ok):=by
 intro H enc W base spare held fuel cs d ps h hw;obtain⟨hl,hf⟩:=uw underlying50 h hw;have hl':cs.length=6:=hl.trans (by kernel_rfl);clear hl
 match cs,hl' with
 | [c0,c1,c2,c3,c4,c5],_=>
  obtain⟨n0,d0,p0,t0,w0⟩:=hf 0 _ rfl;have t0':DataW.trod enc prog W base spare held n0 9 (([c0,c1,c2,c3,c4,c5].drop 0).take (prog.cellsOf 9))=some (d0,p0):=t0;rw[Bj] at t0';have u0:DataW.trod enc prog W base spare held n0 9 [c0]=some (d0,p0):=t0';obtain⟨n1,d1,p1,t1,w1⟩:=hf 1 _ rfl;have t1':DataW.trod enc prog W base spare held n1 3 (([c0,c1,c2,c3,c4,c5].drop 1).take (prog.cellsOf 3))=some (d1,p1):=t1;rw[iL] at t1';have u1:DataW.trod enc prog W base spare held n1 3 [c1]=some (d1,p1):=t1';obtain⟨n2,d2,p2,t2,w2⟩:=hf 2 _ rfl;have t2':DataW.trod enc prog W base spare held n2 3 (([c0,c1,c2,c3,c4,c5].drop 2).take (prog.cellsOf 3))=some (d2,p2):=t2;rw[iL] at t2';have u2:DataW.trod enc prog W base spare held n2 3 [c2]=some (d2,p2):=t2';obtain⟨n3,d3,p3,t3,w3⟩:=hf 3 _ rfl;have t3':DataW.trod enc prog W base spare held n3 3 (([c0,c1,c2,c3,c4,c5].drop 3).take (prog.cellsOf 3))=some (d3,p3):=t3;rw[iL] at t3';have u3:DataW.trod enc prog W base spare held n3 3 [c3]=some (d3,p3):=t3';obtain⟨n4,d4,p4,t4,w4⟩:=hf 4 _ rfl;have t4':DataW.trod enc prog W base spare held n4 3 (([c0,c1,c2,c3,c4,c5].drop 4).take (prog.cellsOf 3))=some (d4,p4):=t4;rw[iL] at t4';have u4:DataW.trod enc prog W base spare held n4 3 [c4]=some (d4,p4):=t4';obtain⟨n5,d5,p5,t5,w5⟩:=hf 5 _ rfl;have t5':DataW.trod enc prog W base spare held n5 48 (([c0,c1,c2,c3,c4,c5].drop 5).take (prog.cellsOf 48))=some (d5,p5):=t5;rw[YS] at t5';have u5:DataW.trod enc prog W base spare held n5 48 [c5]=some (d5,p5):=t5';obtain⟨_,_,s0,_,iR,eG⟩:=C2 underlying9 H enc W base spare held n0 _ _ _ u0 w0;obtain rfl:c0 = .string s0:=by simpa using eG
  obtain⟨_,x1,dO,wf1⟩:=kD underlying3 H enc W base spare held n1 _ _ _ u1 w1;obtain rfl:c1 = .int .i64 x1:=by simpa using dO
  obtain⟨_,x2,oJ,wf2⟩:=kD underlying3 H enc W base spare held n2 _ _ _ u2 w2;obtain rfl:c2 = .int .i64 x2:=by simpa using oJ
  obtain⟨_,x3,uo,wf3⟩:=kD underlying3 H enc W base spare held n3 _ _ _ u3 w3;obtain rfl:c3 = .int .i64 x3:=by simpa using uo
  obtain⟨_,x4,KV,wf4⟩:=kD underlying3 H enc W base spare held n4 _ _ _ u4 w4;obtain rfl:c4 = .int .i64 x4:=by simpa using KV
  obtain⟨_,x5,KW,wf5⟩:=kD underlying48 H enc W base spare held n5 _ _ _ u5 w5;obtain rfl:c5 = .int .u64 x5:=by simpa using KW
  exact⟨rfl,⟨s0.data.toList,x1,x2,x3,x4,x5⟩,⟨s0,rfl,iR,rfl⟩,blJ wf5⟩
theorem a2X:iI prog 40 1 (RSl (rH fi Ok) 6):=zG underlying40 (by kernel_rfl) (by decide) (of_decide_eq_true (by kernel_rfl)) a2Z
theorem a2J:iI prog 42 5 (rH br Np.yv):=by
 intro H enc W base spare held fuel cs d ps h hw;obtain⟨hl,hf⟩:=uw underlying42 h hw;have hl':cs.length=5:=hl.trans (by kernel_rfl);clear hl
 match cs,hl' with
 | [c0,c1,c2,c3,c4],_=>
  obtain⟨n0,d0,p0,t0,w0⟩:=hf 0 _ rfl;have t0':DataW.trod enc prog W base spare held n0 26 (([c0,c1,c2,c3,c4].drop 0).take (prog.cellsOf 26))=some (d0,p0):=t0;rw[OL] at t0';have u0:DataW.trod enc prog W base spare held n0 26 [c0,c1,c2,c3]=some (d0,p0):=t0';obtain⟨n1,d1,p1,t1,w1⟩:=hf 1 _ rfl;have t1':DataW.trod enc prog W base spare held n1 40 (([c0,c1,c2,c3,c4].drop 4).take (prog.cellsOf 40))=some (d1,p1):=t1;rw[YQ] at t1';have u1:DataW.trod enc prog W base spare held n1 40 [c4]=some (d1,p1):=t1';obtain⟨_,x0,eG⟩:=Tf H enc W base spare held n0 _ _ _ u0 w0;obtain⟨_,x1,v1,dO,ui⟩:=a2X H enc W base spare held n1 _ _ _ u1 w1;obtain rfl:c4=v1:=by simpa using dO
  obtain⟨sa,va,ha,hb,hc,hd⟩:=eG;exact⟨rfl,⟨x0,x1⟩,⟨sa,va,_,ha,hb,hc,ui.both.1,by rw[List.cons.injEq,List.cons.injEq,List.cons.injEq,List.cons.injEq] at hd;obtain⟨rfl,rfl,rfl,rfl,_⟩:=hd;rfl⟩,ui.both.2⟩
theorem a2K:iI prog 36 1 (RSl (rH br Np.yv) 5):=zG underlying36 (by kernel_rfl) (by decide) (of_decide_eq_true (by kernel_rfl)) a2J
theorem a2Y:iI prog 44 2 (rH XZ Om):=by
 intro H enc W base spare held fuel cs d ps h hw;obtain⟨hl,hf⟩:=uw underlying44 h hw;have hl':cs.length=2:=hl.trans (by kernel_rfl);clear hl
 match cs,hl' with
 | [c0,c1],_=>
  obtain⟨n0,d0,p0,t0,w0⟩:=hf 0 _ rfl;have t0':DataW.trod enc prog W base spare held n0 9 (([c0,c1].drop 0).take (prog.cellsOf 9))=some (d0,p0):=t0;rw[Bj] at t0';have u0:DataW.trod enc prog W base spare held n0 9 [c0]=some (d0,p0):=t0';obtain⟨n1,d1,p1,t1,w1⟩:=hf 1 _ rfl;have t1':DataW.trod enc prog W base spare held n1 36 (([c0,c1].drop 1).take (prog.cellsOf 36))=some (d1,p1):=t1;rw[YR] at t1';have u1:DataW.trod enc prog W base spare held n1 36 [c1]=some (d1,p1):=t1';obtain⟨_,_,s0,_,iR,eG⟩:=C2 underlying9 H enc W base spare held n0 _ _ _ u0 w0;obtain rfl:c0 = .string s0:=by simpa using eG
  obtain⟨_,x1,v1,dO,ui⟩:=a2K H enc W base spare held n1 _ _ _ u1 w1;obtain rfl:c1=v1:=by simpa using dO
  exact⟨rfl,⟨s0.data.toList,x1⟩,⟨s0,_,rfl,iR,ui.both.1,rfl⟩,ui.both.2⟩
theorem a0Y:iI prog 46 5 (rH lR Ol):=by
 intro H enc W base spare held fuel cs d ps h hw;obtain⟨hl,hf⟩:=uw underlying46 h hw;have hl':cs.length=5:=hl.trans (by kernel_rfl);clear hl
 match cs,hl' with
 | [c0,c1,c2,c3,c4],_=>
  obtain⟨n0,d0,p0,t0,w0⟩:=hf 0 _ rfl;have t0':DataW.trod enc prog W base spare held n0 3 (([c0,c1,c2,c3,c4].drop 0).take (prog.cellsOf 3))=some (d0,p0):=t0;rw[iL] at t0';have u0:DataW.trod enc prog W base spare held n0 3 [c0]=some (d0,p0):=t0';obtain⟨n1,d1,p1,t1,w1⟩:=hf 1 _ rfl;have t1':DataW.trod enc prog W base spare held n1 3 (([c0,c1,c2,c3,c4].drop 1).take (prog.cellsOf 3))=some (d1,p1):=t1;rw[iL] at t1';have u1:DataW.trod enc prog W base spare held n1 3 [c1]=some (d1,p1):=t1';obtain⟨n2,d2,p2,t2,w2⟩:=hf 2 _ rfl;have t2':DataW.trod enc prog W base spare held n2 3 (([c0,c1,c2,c3,c4].drop 2).take (prog.cellsOf 3))=some (d2,p2):=t2;rw[iL] at t2';have u2:DataW.trod enc prog W base spare held n2 3 [c2]=some (d2,p2):=t2';obtain⟨n3,d3,p3,t3,w3⟩:=hf 3 _ rfl;have t3':DataW.trod enc prog W base spare held n3 44 (([c0,c1,c2,c3,c4].drop 3).take (prog.cellsOf 44))=some (d3,p3):=t3;rw[YT] at t3';have u3:DataW.trod enc prog W base spare held n3 44 [c3,c4]=some (d3,p3):=t3';obtain⟨_,x0,eG,wf0⟩:=kD underlying3 H enc W base spare held n0 _ _ _ u0 w0;obtain rfl:c0 = .int .i64 x0:=by simpa using eG
  obtain⟨_,x1,dO,wf1⟩:=kD underlying3 H enc W base spare held n1 _ _ _ u1 w1;obtain rfl:c1 = .int .i64 x1:=by simpa using dO
  obtain⟨_,x2,oJ,wf2⟩:=kD underlying3 H enc W base spare held n2 _ _ _ u2 w2;obtain rfl:c2 = .int .i64 x2:=by simpa using oJ
  obtain⟨_,x3,uo⟩:=a2Y H enc W base spare held n3 _ _ _ u3 w3;obtain⟨⟨sa,va,ha,hb,hc,hd⟩,hp⟩:=uo;exact⟨rfl,⟨x0,x1,x2,x3⟩,⟨sa,va,ha,hb,hc,by rw[List.cons.injEq,List.cons.injEq] at hd;obtain⟨rfl,rfl,_⟩:=hd;rfl⟩,hp⟩
theorem a0X:iI prog 23 1 (RSl (rH lR Ol) 5):=zG underlying23 (by kernel_rfl) (by decide) (of_decide_eq_true (by kernel_rfl)) a0Y
theorem a1K:iI prog 101 3 gp:=by
 intro H enc W base spare held fuel cs d ps h hw;obtain⟨hl,hf⟩:=uw underlying101 h hw;have hl':cs.length=3:=hl.trans (by kernel_rfl);clear hl
 match cs,hl' with
 | [c0,c1,c2],_=>
  obtain⟨n0,d0,p0,t0,w0⟩:=hf 0 _ rfl;have t0':DataW.trod enc prog W base spare held n0 9 (([c0,c1,c2].drop 0).take (prog.cellsOf 9))=some (d0,p0):=t0;rw[Bj] at t0';have u0:DataW.trod enc prog W base spare held n0 9 [c0]=some (d0,p0):=t0';obtain⟨n1,d1,p1,t1,w1⟩:=hf 1 _ rfl;have t1':DataW.trod enc prog W base spare held n1 3 (([c0,c1,c2].drop 1).take (prog.cellsOf 3))=some (d1,p1):=t1;rw[iL] at t1';have u1:DataW.trod enc prog W base spare held n1 3 [c1]=some (d1,p1):=t1';obtain⟨n2,d2,p2,t2,w2⟩:=hf 2 _ rfl;have t2':DataW.trod enc prog W base spare held n2 3 (([c0,c1,c2].drop 2).take (prog.cellsOf 3))=some (d2,p2):=t2;rw[iL] at t2';have u2:DataW.trod enc prog W base spare held n2 3 [c2]=some (d2,p2):=t2';obtain⟨_,_,s0,_,iR,eG⟩:=C2 underlying9 H enc W base spare held n0 _ _ _ u0 w0;obtain rfl:c0 = .string s0:=by simpa using eG
  obtain⟨_,x1,dO,wf1⟩:=kD underlying3 H enc W base spare held n1 _ _ _ u1 w1;obtain rfl:c1 = .int .i64 x1:=by simpa using dO
  obtain⟨_,x2,oJ,wf2⟩:=kD underlying3 H enc W base spare held n2 _ _ _ u2 w2;obtain rfl:c2 = .int .i64 x2:=by simpa using oJ
  exact⟨rfl,⟨s0.data.toList,x1,x2⟩,s0,rfl,iR,rfl⟩
theorem a1X:iI prog 22 1 (RSl gp 3):=zG underlying22 (by kernel_rfl) (by decide) (of_decide_eq_true (by kernel_rfl)) a1K
theorem a1Y:iI prog 3 1 ei:=λH enc W base spare held fuel cs d ps h hw=>by
 obtain⟨h1,x,h2,_⟩:=kD underlying3 H enc W base spare held fuel cs d ps h hw;exact⟨h1,x,h2⟩
theorem a2Q:iI prog 27 1 (RSl ei 1):=zG underlying27 (by kernel_rfl) (by decide) (of_decide_eq_true (by kernel_rfl)) a1Y
theorem a1J:iI prog 29 9 (rH ik Np.pr):=by
 intro H enc W base spare held fuel cs d ps h hw;obtain⟨hl,hf⟩:=uw underlying29 h hw;have hl':cs.length=9:=hl.trans (by kernel_rfl);clear hl
 match cs,hl' with
 | [c0,c1,c2,c3,c4,c5,c6,c7,c8],_=>
  obtain⟨n0,d0,p0,t0,w0⟩:=hf 0 _ rfl;have t0':DataW.trod enc prog W base spare held n0 22 (([c0,c1,c2,c3,c4,c5,c6,c7,c8].drop 0).take (prog.cellsOf 22))=some (d0,p0):=t0;rw[YN] at t0';have u0:DataW.trod enc prog W base spare held n0 22 [c0]=some (d0,p0):=t0';obtain⟨n1,d1,p1,t1,w1⟩:=hf 1 _ rfl;have t1':DataW.trod enc prog W base spare held n1 23 (([c0,c1,c2,c3,c4,c5,c6,c7,c8].drop 1).take (prog.cellsOf 23))=some (d1,p1):=t1;rw[YL] at t1';have u1:DataW.trod enc prog W base spare held n1 23 [c1]=some (d1,p1):=t1';obtain⟨n2,d2,p2,t2,w2⟩:=hf 2 _ rfl;have t2':DataW.trod enc prog W base spare held n2 26 (([c0,c1,c2,c3,c4,c5,c6,c7,c8].drop 2).take (prog.cellsOf 26))=some (d2,p2):=t2;rw[OL] at t2';have u2:DataW.trod enc prog W base spare held n2 26 [c2,c3,c4,c5]=some (d2,p2):=t2';obtain⟨n3,d3,p3,t3,w3⟩:=hf 3 _ rfl;have t3':DataW.trod enc prog W base spare held n3 27 (([c0,c1,c2,c3,c4,c5,c6,c7,c8].drop 6).take (prog.cellsOf 27))=some (d3,p3):=t3;rw[YO] at t3';have u3:DataW.trod enc prog W base spare held n3 27 [c6]=some (d3,p3):=t3';obtain⟨n4,d4,p4,t4,w4⟩:=hf 4 _ rfl;have t4':DataW.trod enc prog W base spare held n4 3 (([c0,c1,c2,c3,c4,c5,c6,c7,c8].drop 7).take (prog.cellsOf 3))=some (d4,p4):=t4;rw[iL] at t4';have u4:DataW.trod enc prog W base spare held n4 3 [c7]=some (d4,p4):=t4';obtain⟨n5,d5,p5,t5,w5⟩:=hf 5 _ rfl;have t5':DataW.trod enc prog W base spare held n5 3 (([c0,c1,c2,c3,c4,c5,c6,c7,c8].drop 8).take (prog.cellsOf 3))=some (d5,p5):=t5;rw[iL] at t5';have u5:DataW.trod enc prog W base spare held n5 3 [c8]=some (d5,p5):=t5';obtain⟨_,x0,v0,eG,aAX⟩:=a1X H enc W base spare held n0 _ _ _ u0 w0;obtain rfl:c0=v0:=by simpa using eG
  obtain⟨_,x1,v1,dO,ui⟩:=a0X H enc W base spare held n1 _ _ _ u1 w1;obtain rfl:c1=v1:=by simpa using dO
  obtain⟨_,x2,oJ⟩:=Tf H enc W base spare held n2 _ _ _ u2 w2;obtain⟨_,x3,v3,uo,KF⟩:=a2Q H enc W base spare held n3 _ _ _ u3 w3;obtain rfl:c6=v3:=by simpa using uo
  obtain⟨_,x4,KV,wf4⟩:=kD underlying3 H enc W base spare held n4 _ _ _ u4 w4;obtain rfl:c7 = .int .i64 x4:=by simpa using KV
  obtain⟨_,x5,KW,wf5⟩:=kD underlying3 H enc W base spare held n5 _ _ _ u5 w5;obtain rfl:c8 = .int .i64 x5:=by simpa using KW
  obtain⟨sa,va,ha,hb,hc,hd⟩:=oJ;exact⟨rfl,⟨x0,x1,x2,x3,x4,x5⟩,⟨_,_,sa,va,_,by rw[List.cons.injEq,List.cons.injEq,List.cons.injEq,List.cons.injEq] at hd;obtain⟨rfl,rfl,rfl,rfl,_⟩:=hd;rfl,ha,hb,aAX,ui.both.1,hc,KF⟩,ui.both.2⟩
theorem Ys{α:Type}{P:Program}{t:TypeId}{sz:Nat}{R:aiQ α}{fs:Array Field}(hs:P.underlying t=some (.struct fs))(hR:iI P t sz R){H:Type}{enc:TypeId×Value->H}{W:World}{r:Reach}{base b0:Nat}{spare:Nat->Bool}{held:Bool}{v:Value}{d:DataW H}{p:List MemPlace}
 (hv:Value.okWide P W r b0 t v) (h:DataW.Trod enc P W base spare held t v d p) (hw:∀ n∈d.weights P t,n<=reachBytes):∃ (cs:List Value) (x:α),v = .agg cs.toArray/\R W W.heap.size cs x:=by
 obtain⟨cs,rfl,_⟩:=okWide_struct hs hv;obtain⟨fuel,hf⟩:=h;obtain⟨_,x,hx⟩:=hR H enc W base spare held fuel _ d p hf hw;exact⟨_,x,by simp[Value.cells],hx⟩
theorem Ga{H:Type}{P:Program}{ts:List TypeId}{ds:List (DataW H)}(h:(DataW.weightsEach P ts ds).all (·<=reachBytes)=true){j:Nat}{t:TypeId}{d:DataW H}(ht:ts[j]?=some t)(hd:ds[j]?=some d):∀ n∈d.weights P t,n<=reachBytes:=
 λn hn=>by simpa using List.all_eq_true.1 h n (DataW.weights_mem_each ht hd n hn)
end
end Go.Proofs.YtfnopgdcaanaiaaGreatDoor
