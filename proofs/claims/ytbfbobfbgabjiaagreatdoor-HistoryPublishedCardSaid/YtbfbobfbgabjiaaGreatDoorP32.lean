/- Parts of the proof. No condition. -/
import Derived.Laws.OwnMore
import Derived.Test.YtbfbobfbgabjiaaGreatDoorP28
import Derived.Test.YtbfbobfbgabjiaaGreatDoorP29
import Derived.Test.YtbfbobfbgabjiaaGreatDoorP30
set_option linter.all false
set_option maxRecDepth 100000
set_option maxHeartbeats 8000000
namespace Go.Proofs.YtbfbobfbgabjiaaGreatDoor
open Go.Proofs.Tryz
section
open Go.RowKit
def Np.lG(h:Np.Hist)(t:Int):Prop:=Np.VHist h/\0<=t/\t<h.stop
def Np.pV:Np.WorldP:=⟨[],[],⟨[],0,0,[]⟩,[]⟩
noncomputable def Np.atW(h:Np.Hist)(t:Int):Np.WorldP:=if Np.yes (Np.lG h t) then Np.oT h t else Np.pV
noncomputable def Np.atE(h:Np.Hist)(t:Int):Int:=if Np.yes (Np.lG h t) then 0 else 1
theorem Np.qq{h:Np.Hist}{t:Int}(k:Np.lG h t):Np.atW h t=Np.oT h t/\Np.atE h t=0:=by
 unfold Np.atW Np.atE;rw[Np.bM k];exact⟨rfl,rfl⟩
theorem Np.vE{h:Np.Hist}{t:Int}(k:¬ Np.lG h t):Np.atW h t=Np.pV/\Np.atE h t=1:=by
 unfold Np.atW Np.atE;rw[Np.aJ k];exact⟨rfl,rfl⟩
theorem KG(w:World)(B:Nat):rG w B [.slice none 0 0,.slice none 0 0,.string ⟨#[]⟩,.int .i64 0,.int .i64 0,.slice none 0 0,.slice none 0 0] Np.pV:=
 ⟨_,_,⟨#[]⟩,_,_,rfl,rfl,by decide,⟨none,0,rfl,bQ _,by simp[Np.pV],λi x h=>by simp[Np.pV] at h⟩,⟨none,0,rfl,bQ _,by simp[Np.pV],λi x h=>by simp[Np.pV] at h⟩,⟨none,0,rfl,bQ _,by simp[Np.pV],λi x h=>by simp[Np.pV] at h⟩,⟨none,0,rfl,bQ _,by simp[Np.pV],λi x h=>by simp[Np.pV] at h⟩⟩
theorem Fq{a b c d:Value}(h1:a=c)(h2:b=d):Ending.returned (.tuple #[a,b]) = .returned (.tuple #[c,d]):=by rw[h1,h2]
theorem aCX(u v:Value)(xs:List Np.Signed)(w:World)(hu:SlR bC 5 w w.heap.size u xs)(hv:SlR bC 5 w w.heap.size v xs) :
 Calls prog 76 #[u,v] w λe w'=>e = .returned (.bool true)/\Below w.heap.size w w':=by
 have HU:=jq hu;have HV:=jq hv;obtain⟨A,c,rfl,aV,bi⟩:=ah hu;obtain⟨A2,c2,rfl,dG,dm⟩:=ah hv;clear hu hv;have JJ:((xs.length:Int) != (xs.length:Int))=false:=by simp
 go_enter func76,ntmps76;go_wp2_with fail;go_loopw [5] (λi wr=>∃ k:Nat,k<=xs.length/\i = .int .i64 k/\Hid (Below w.heap.size w wr)) (λi _=>xs.length - (intOf i).toNat)
 case atStart=>exact⟨0,jQ _,rfl,jq (vQ _ _)⟩
 case round=>
  obtain⟨k,hk,rfl,HB⟩:=hrel;by_cases aa:k<xs.length
  ·obtain⟨b,o,c',s,dv,sv,hA,hb,_,hs,am,aL,ax,e0,e1,e2,e3,e4⟩:=eE (HU.out.later aN bN HB.out) (aQ aa)
   cases hA
   obtain⟨b2,o2,c2',s',dv',sv',hA,ab,_,hs',cA,wk,pN,f0,f1,f2,f3,f4⟩:=eE (HV.out.later aN bN HB.out) (aQ aa);simp only[Value.slice.injEq] at hA;obtain⟨rfl,_,rfl⟩:=hA;have gP:s'=s:=iM (by rw[hs,hs']);subst gP;generalize xs[k]=x at *;have iA:=jq aL;have Gn:=jq wk;have fC:=jq ax;have AA:=jq pN;obtain⟨S1,m1,rfl,_,_⟩:=ah ax;obtain⟨S2,m2,rfl,_,_⟩:=ah pN;obtain⟨D1,n1,rfl,_,_⟩:=ah aL;obtain⟨D2,n2,rfl,_,_⟩:=ah wk;have bH:(0:Int)<=(k:Int):=by omega
   have bG:(k:Int)<(xs.length:Int):=by omega
   have nD:∀ (g:bF wr) (p:Addr),p.block<wr.heap.size->g.w.cell? p=wr.cell? p:=λg p h=>g.cell p h;have bT:∀ g:bF wr,Calls prog 30 #[.agg #[.string s',.int .i64 x.set.type,.int .i64 x.set.life,.slice D1 x.set.data.length n1,.slice S1 x.sigs.length m1],.agg #[.string s',.int .i64 x.set.type,.int .i64 x.set.life,.slice D2 x.set.data.length n2,.slice S2 x.sigs.length m2]] g.w λe w'=>e = .returned (.bool true)/\Below g.w.heap.size g.w w':=λg=>
    (KH s' s' _ _ _ _ _ _ _ _ x.set.data x.set.data x.sigs x.sigs g.w (iA.out.later cB cZ g.below) (Gn.out.later cB cZ g.below) (fC.out.later el fx g.below) (AA.out.later el fx g.below)).mono λe w' h=>⟨by rw[h.1]; simp,h.2⟩
   have jH:=jq bT;clear bT hs hs' ax pN aL wk am cA;go_wp2_with fail;refine fe (by kernel_rfl) (by kernel_rfl) ?_
   repeat (go_big_quiet_step ((go_at_call 30; exact Calls.grow_of (jH.out _))))
   refine wpQuiet_nil ?_;rintro _ ⟨g,rfl⟩;go_wp2_with fail;go_roundw
   case rel=>exact⟨k+1,by omega,by go_num,jq (HB.out.trans (g.below.mono HB.out.size))⟩
   case measure=>simp[intOf] <;> omega
  ·go_wp2_with fail;go_ret;exact⟨rfl,HB.out⟩
theorem aDZ(s:ByteArray)(u v:Value)(xs:List Np.Signed)(w:World)(hu:SlR bC 5 w w.heap.size u xs)(hv:SlR bC 5 w w.heap.size v xs) :
 Calls prog 28 #[.agg #[.string s,u],.agg #[.string s,v]] w λe w'=>e = .returned (.bool true)/\Below w.heap.size w w':=by
 have HU:=jq hu;have HV:=jq hv;have ia:Below w.heap.size w ((w.alloc (.cells #[.string s,u] 56)).alloc (.cells #[.string s,v] 56)):=((vQ _ _).alloc (bQ _) _).alloc (by simp) _;have aY:=jq ia;obtain⟨A,c,rfl,aV,bi⟩:=ah hu;obtain⟨A2,c2,rfl,dG,dm⟩:=ah hv;clear hu hv ia;go_enter func28,ntmps28;go_wp2_with fail;refine (aCX _ _ xs _ (HU.out.later aN bN aY.out) (HV.out.later aN bN aY.out)).mono ?_;rintro e w1 ⟨rfl,ap⟩;have ay:=jq (aY.out.trans (ap.mono aY.out.size));clear ap;go_wp2_with fail;go_ret;exact⟨rfl,ay.out⟩
theorem Rk(u v:Value)(xs:List Np.Placed)(w:World)(hu:SlR jm 3 w w.heap.size u xs)(hv:SlR jm 3 w w.heap.size v xs) :
 Calls prog 40 #[u,v] w λe w'=>e = .returned (.bool true)/\Below w.heap.size w w':=by
 have HU:=jq hu;have HV:=jq hv;obtain⟨A,c,rfl,aV,bi⟩:=ah hu;obtain⟨A2,c2,rfl,dG,dm⟩:=ah hv;clear hu hv;have JJ:((xs.length:Int) != (xs.length:Int))=false:=by simp
 go_enter func40,ntmps40;go_wp2_with fail;go_loopw [5] (λi wr=>∃ k:Nat,k<=xs.length/\i = .int .i64 k/\Hid (Below w.heap.size w wr)) (λi _=>xs.length - (intOf i).toNat)
 case atStart=>exact⟨0,jQ _,rfl,jq (vQ _ _)⟩
 case round=>
  obtain⟨k,hk,rfl,HB⟩:=hrel;by_cases aa:k<xs.length
  ·obtain⟨b,o,s,sv,rfl,hb,hs,am,ax,e0,e1,e2⟩:=Cz (HU.out.later fV fW HB.out) (aQ aa);obtain⟨b2,o2,s',sv',rfl,ab,hs',cA,pN,f0,f1,f2⟩:=Cz (HV.out.later fV fW HB.out) (aQ aa);have gP:s'=s:=iM (by rw[hs,hs']);subst gP;generalize xs[k]=x at *;have fC:=jq ax;have AA:=jq pN;obtain⟨S1,m1,rfl,_,_⟩:=ah ax;obtain⟨S2,m2,rfl,_,_⟩:=ah pN;have bH:(0:Int)<=(k:Int):=by omega
   have bG:(k:Int)<(xs.length:Int):=by omega
   have hne:(x.host != x.host)=false:=by simp
   have nD:∀ (g:bF wr) (p:Addr),p.block<wr.heap.size->g.w.cell? p=wr.cell? p:=λg p h=>g.cell p h;have bT:∀ g:bF wr,Calls prog 28 #[.agg #[.string s',.slice S1 x.zone.sets.length m1],.agg #[.string s',.slice S2 x.zone.sets.length m2]] g.w λe w'=>e = .returned (.bool true)/\Below g.w.heap.size g.w w':=λg=>
    aDZ s' _ _ x.zone.sets g.w (fC.out.later aN bN g.below) (AA.out.later aN bN g.below)
   have jH:=jq bT;clear bT hs hs' ax pN am cA;go_wp2_with fail;refine fe (by kernel_rfl) (by kernel_rfl) ?_
   repeat (go_big_quiet_step ((go_at_call 28; exact Calls.grow_of (jH.out _))))
   refine wpQuiet_nil ?_;rintro _ ⟨g,rfl⟩;go_wp2_with fail;go_roundw
   case rel=>exact⟨k+1,by omega,by go_num,jq (HB.out.trans (g.below.mono HB.out.size))⟩
   case measure=>simp[intOf] <;> omega
  ·go_wp2_with fail;go_ret;exact⟨rfl,HB.out⟩
theorem ajY(a b:ByteArray)(n1 n2 m1 m2:Int)(w:World):(binOp .neq 64 (.agg #[.string a,.int .i64 n1,.int .i64 n2]) (.agg #[.string b,.int .i64 m1,.int .i64 m2])).run prog w = .ok (.bool (!(a.toList == b.toList&&(n1 == m1&&n2 == m2)))) w:=by
 have u3:=underlying3;have a3:=isAgg3;have z3:=sizeOf3;have u9:=underlying9;have a9:=isAgg9;have z9:=sizeOf9;have hS:prog.underlying 64=some (.struct (prog.fieldsOf 64)):=by kernel_rfl
 have hp:prog.stoodInHeld 64=false:=by kernel_rfl
 rw[run_neq_struct,show (10000:Nat)=9999+1 from rfl,run_equalIn_agg w 9999 64 _ _ hS hp];simp only[Program.fieldsOf,underlying64];go_simp;by_cases h0:a.toList=b.toList <;> by_cases h1:n1=m1 <;> by_cases h2:n2=m2 <;> simp[h0,h1,h2]
theorem KW(u v:Value)(xs:List (List UInt8))(w:World)(hu:SlR RTx 1 w w.heap.size u xs)(hv:SlR RTx 1 w w.heap.size v xs) :
 Calls prog 19 #[u,v] w λe w'=>e = .returned (.bool true)/\Below w.heap.size w w':=by
 have HU:=jq hu;have HV:=jq hv;obtain⟨A,c,rfl,aV,bi⟩:=ah hu;obtain⟨A2,c2,rfl,dG,dm⟩:=ah hv;clear hu hv;have JJ:((xs.length:Int) != (xs.length:Int))=false:=by simp
 go_enter func19,ntmps19;go_wp2_with fail;go_loopw [5] (λi wr=>∃ k:Nat,k<=xs.length/\i = .int .i64 k/\Hid (Below w.heap.size w wr)) (λi _=>xs.length - (intOf i).toNat)
 case atStart=>exact⟨0,jQ _,rfl,jq (vQ _ _)⟩
 case round=>
  obtain⟨k,hk,rfl,HB⟩:=hrel;by_cases aa:k<xs.length
  ·obtain⟨A',c',hA,_,_,br⟩:=HU.out.keep iL HB.out
   cases hA
   obtain⟨b,o,e,rfl,hb,_,hce,s,hs,_,rfl⟩:=br k _ (aQ aa);obtain⟨A',c',hA,_,_,OI⟩:=HV.out.keep iL HB.out
   cases hA
   obtain⟨b',o',e',rfl,hb',_,lq,s',hs',_,rfl⟩:=OI k _ (aQ aa);have gP:s'=s:=iM (by rw[hs,hs']);subst gP;have f0:wr.cell? ⟨b,o+k,none⟩=some (.string s'):=by have:=hce 0 _ rfl; simpa using this
   have e0:wr.cell? ⟨b',o'+k,none⟩=some (.string s'):=by have:=lq 0 _ rfl; simpa using this
   have bH:(0:Int)<=(k:Int):=by omega
   have bG:(k:Int)<(xs.length:Int):=by omega
   have mK:(s'.toList == s'.toList)=true:=by simp
   clear br OI hce lq hs hs';go_wp2_with fail;go_quiet (fail);go_wp2_with fail;go_roundw
   case rel=>exact⟨k+1,by omega,by go_num,jq (below_drewN HB.out _)⟩
   case measure=>simp[intOf] <;> omega
  ·go_wp2_with fail;go_ret;exact⟨rfl,HB.out⟩
def oh(W:World)(B:Nat)(e:List Value)(x:Np.Held):Prop:=∃ (z s:ByteArray) (dv sv fv pv:Value),e = [.string z,.string s,.int .i64 x.signed.set.type,.int .i64 x.signed.set.life,dv,sv,fv,pv]/\z.data.toList=x.zone/\z.size<=140737488355328/\s.data.toList=x.signed.set.name/\s.size<=140737488355328/\
 SlR cr 3 W B dv x.signed.set.data/\SlR fj 6 W B sv x.signed.sigs/\SlR fk 2 W B fv x.fresh/\SlR fk 2 W B pv x.spans
theorem kN:dw oh:=λ_ _ _ _ _ ⟨z,s,dv,sv,fv,pv,h0,h1,h2,h3,h4,h5,h6,h7,h8⟩ hb=>⟨z,s,dv,sv,fv,pv,h0,h1,h2,h3,h4,h5.keep cB hb,h6.keep el hb,h7.keep eZ hb,h8.keep eZ hb⟩
theorem kg:dN oh:=λ_ _ _ _ _ ⟨z,s,dv,sv,fv,pv,h0,h1,h2,h3,h4,h5,h6,h7,h8⟩ hb=>⟨z,s,dv,sv,fv,pv,h0,h1,h2,h3,h4,h5.more cZ hb,h6.more fx hb,h7.more jd hb,h8.more jd hb⟩
theorem wl{w:World}{B n c:Nat}{A:Option Addr}{xs:List Np.Held}(h:SlR oh 8 w B (.slice A n c) xs){k:Nat}{x:Np.Held}(hx:xs[k]?=some x):∃ (b o:Nat) (z s:ByteArray) (dv sv fv pv:Value),A=some ⟨b,o,none⟩/\b<B/\z.data.toList=x.zone/\s.data.toList=x.signed.set.name/\
 SlR cr 3 w B dv x.signed.set.data/\SlR fj 6 w B sv x.signed.sigs/\SlR fk 2 w B fv x.fresh/\SlR fk 2 w B pv x.spans/\
 w.cell? ⟨b,o+k * 8,none⟩=some (.string z)/\w.cell? ⟨b,o+k * 8+1,none⟩=some (.string s)/\w.cell? ⟨b,o+k * 8+2,none⟩=some (.int .i64 x.signed.set.type)/\w.cell? ⟨b,o+k * 8+3,none⟩=some (.int .i64 x.signed.set.life)/\w.cell? ⟨b,o+k * 8+4,none⟩=some dv/\w.cell? ⟨b,o+k * 8+5,none⟩=some sv/\w.cell? ⟨b,o+k * 8+6,none⟩=some fv/\w.cell? ⟨b,o+k * 8+7,none⟩=some pv:=by
 obtain⟨A',c',hA',_,_,br⟩:=h
 cases hA'
 obtain⟨b,o,e,hA,bZ,hlen,hce,z,s,dv,sv,fv,pv,he,h1,_,h3,_,h5,h6,h7,h8⟩:=br k _ hx;subst he;exact⟨b,o,z,s,dv,sv,fv,pv,hA,bZ,h1,h3,h5,h6,h7,h8,hce 0 _ rfl,hce 1 _ rfl,hce 2 _ rfl,hce 3 _ rfl,hce 4 _ rfl,hce 5 _ rfl,hce 6 _ rfl,hce 7 _ rfl⟩
theorem Rj(u v:Value)(xs:List Np.Held)(w:World)(hu:SlR oh 8 w w.heap.size u xs)(hv:SlR oh 8 w w.heap.size v xs) :
 Calls prog 24 #[u,v] w λe w'=>e = .returned (.bool true)/\Below w.heap.size w w':=by
 have HU:=jq hu;have HV:=jq hv;obtain⟨A,c,rfl,aV,bi⟩:=ah hu;obtain⟨A2,c2,rfl,dG,dm⟩:=ah hv;clear hu hv;have JJ:((xs.length:Int) != (xs.length:Int))=false:=by simp
 go_enter func24,ntmps24;go_wp2_with fail;go_loopw [5] (λi wr=>∃ k:Nat,k<=xs.length/\i = .int .i64 k/\Hid (Below w.heap.size w wr)) (λi _=>xs.length - (intOf i).toNat)
 case atStart=>exact⟨0,jQ _,rfl,jq (vQ _ _)⟩
 case round=>
  obtain⟨k,hk,rfl,HB⟩:=hrel;by_cases aa:k<xs.length
  ·obtain⟨b,o,z,s,dv,sv,fv,pv,rfl,hb,hz,hs,aL,ax,oE,qI,e0,e1,e2,e3,e4,e5,e6,e7⟩:=wl (HU.out.later kN kg HB.out) (aQ aa);obtain⟨b',o',z',s',dv',sv',fv',pv',rfl,hb',hz',hs',wk,pN,Js,JM,f0,f1,f2,f3,f4,f5,f6,f7⟩:=wl (HV.out.later kN kg HB.out) (aQ aa);have gP:s'=s:=iM (by rw[hs,hs']);subst gP;have EX:z'=z:=iM (by rw[hz,hz']);subst EX;generalize xs[k]=x at *;have iA:=jq aL;have Gn:=jq wk;have fC:=jq ax;have AA:=jq pN;have xF:=jq oE;have Ti:=jq Js;have u7:=jq qI;have Uf:=jq JM;obtain⟨S1,m1,rfl,_,_⟩:=ah ax;obtain⟨S2,m2,rfl,_,_⟩:=ah pN;obtain⟨D1,n1,rfl,_,_⟩:=ah aL;obtain⟨D2,n2,rfl,_,_⟩:=ah wk;obtain⟨F1,p1,rfl,_,_⟩:=ah oE;obtain⟨F2,p2,rfl,_,_⟩:=ah Js;obtain⟨G1,q1,rfl,_,_⟩:=ah qI;obtain⟨G2,q2,rfl,_,_⟩:=ah JM;have bH:(0:Int)<=(k:Int):=by omega
   have bG:(k:Int)<(xs.length:Int):=by omega
   have kK:(z'.toList == z'.toList)=true:=by simp
   have nD:∀ (g:bF wr) (p:Addr),p.block<wr.heap.size->g.w.cell? p=wr.cell? p:=λg p h=>g.cell p h;have bT:∀ g:bF wr,Calls prog 30 #[.agg #[.string s',.int .i64 x.signed.set.type,.int .i64 x.signed.set.life,.slice D1 x.signed.set.data.length n1,.slice S1 x.signed.sigs.length m1],.agg #[.string s',.int .i64 x.signed.set.type,.int .i64 x.signed.set.life,.slice D2 x.signed.set.data.length n2,.slice S2 x.signed.sigs.length m2]] g.w λe w'=>e = .returned (.bool true)/\Below g.w.heap.size g.w w':=λg=>
    (KH s' s' _ _ _ _ _ _ _ _ x.signed.set.data x.signed.set.data x.signed.sigs x.signed.sigs g.w (iA.out.later cB cZ g.below) (Gn.out.later cB cZ g.below) (fC.out.later el fx g.below) (AA.out.later el fx g.below)).mono λe w' h=>⟨by rw[h.1]; simp,h.2⟩
   have Oy:∀ g:bF wr,Calls prog 25 #[.slice F1 x.fresh.length p1,.slice F2 x.fresh.length p2] g.w λe w'=>e = .returned (.bool true)/\Below g.w.heap.size g.w w':=λg=>
    (zi _ _ x.fresh x.fresh g.w (xF.out.later eZ jd g.below) (Ti.out.later eZ jd g.below)).mono λe w' h=>⟨by rw[h.1]; simp,h.2⟩
   have Oz:∀ g:bF wr,Calls prog 25 #[.slice G1 x.spans.length q1,.slice G2 x.spans.length q2] g.w λe w'=>e = .returned (.bool true)/\Below g.w.heap.size g.w w':=λg=>
    (zi _ _ x.spans x.spans g.w (u7.out.later eZ jd g.below) (Uf.out.later eZ jd g.below)).mono λe w' h=>⟨by rw[h.1]; simp,h.2⟩
   have jH:=jq bT;have SX:=jq Oy;have SY:=jq Oz;clear bT Oy Oz hs hs' hz hz' ax pN aL wk oE Js qI JM;go_wp2_with fail;refine fe (by kernel_rfl) (by kernel_rfl) ?_
   repeat (go_big_quiet_step (fail))
   go_big_quiet_step ((go_at_call 30; exact Calls.grow_of (jH.out _)))
   repeat (go_big_quiet_step (fail))
   go_big_quiet_step ((go_at_call 25; exact Calls.grow_of (SX.out _)))
   repeat (go_big_quiet_step (fail))
   go_big_quiet_step ((go_at_call 25; exact Calls.grow_of (SY.out _)))
   repeat (go_big_quiet_step (fail))
   refine wpQuiet_nil ?_;rintro _ ⟨g,rfl⟩;go_wp2_with fail;go_roundw
   case rel=>exact⟨k+1,by omega,by go_num,jq (HB.out.trans (g.below.mono HB.out.size))⟩
   case measure=>simp[intOf] <;> omega
  ·go_wp2_with fail;go_ret;exact⟨rfl,HB.out⟩
theorem IE{sz:Nat} : ∀ (rows:List (List Value)) (i c:Nat) (u:Value) (r:List Value),(∀ q∈rows,q.length=sz)->c<sz->rows[i]?=some r->rows.flatten.set (i * sz+c) u=(rows.set i (r.set c u)).flatten
 | [],i,c,u,r,_,_,h=>by simp at h
 | q::rows,0,c,u,r,hl,hc,h=>by
   have e:q=r:=by simpa using h
   subst e;rw[List.flatten_cons,Nat.zero_mul,Nat.zero_add,List.set_append_left _ _ (by rw[hl q (by simp)]; exact hc),List.set_cons_zero,List.flatten_cons]
 | q::rows,i+1,c,u,r,hl,hc,h=>by
   have hq:=hl q (by simp);have ih:=IE rows i c u r (λx hx=>hl x (mQ _ hx)) hc (by simpa using h);rw[List.flatten_cons,List.set_append_right _ _ (by rw[hq,Nat.succ_mul]; omega),hq,show (i+1) * sz+c - sz=i * sz+c by rw[Nat.succ_mul]; omega,ih,List.set_cons_succ,List.flatten_cons]
theorem bU.stored{α:Type}{R:World->Nat->List Value->α->Prop}(hk:dw R)(hs:eH R)(hm:dN R){sz:Nat}{e:TypeId}{base:Nat}{M:Nat->Prop}{w:World}{g n cap:Nat}{xs:List α}(h:bU R sz e base M w (.slice (some ⟨g,0,none⟩) n cap) xs)(hn:xs.length=n){i c:Nat}{x y:α}(hi:xs[i]?=some x)(hc:c<sz)(u:Value)
 (hR:∀ r,r.length=sz->R (bj w M) w.heap.size r x->R (bj w M) w.heap.size (r.set c u) y):bU R sz e base M (w.setCell ⟨g,i * sz+c,none⟩ u) (.slice (some ⟨g,0,none⟩) n cap) (xs.set i y):=by
 obtain⟨rows,h1,h2,h3,h4⟩:=h;subst hn;have dV:=(cQ.1 hi).1;have hr:=aQ (show i<rows.length by omega);obtain⟨r,hr'⟩:∃ r,rows[i]?=some r:=⟨_,hr⟩;have hlen:=bl.rows_len (w:=bj w M) (B:=w.heap.size) h1 h4;have wu:M g:=h3 g rfl;have wJ:Leaves' M w (w.setCell ⟨g,i * sz+c,none⟩ u) M:=Leaves'.setCell M w wu u;refine⟨rows.set i (r.set c u),by simp[h1],?_,h3,λj q z hq hz=>?_⟩
 ·rw[List.length_set,<-IE rows i c u r hlen hc hr'];exact (World.ownsRow.stored h2 (i * sz+c) u).1
 ·rw[List.getElem?_set] at hq hz;by_cases dU:i=j
  ·subst dU;rw[Qb rfl,Qb (by omega)] at hq;rw[Qb rfl,Qb dV] at hz
   cases hq; cases hz
   obtain⟨h5,h6⟩:=h4 i r x hr' hi;exact⟨by rw[List.length_set]; exact h5,wJ.read hk hs hm (hR r h5 h6)⟩
  ·rw[Qc dU] at hq hz;obtain⟨h5,h6⟩:=h4 j q z hq hz;exact⟨h5,wJ.read hk hs hm h6⟩
theorem bU.frozenAt{α:Type}{R:World->Nat->List Value->α->Prop}{sz:Nat}{e:TypeId}{base:Nat}{M:Nat->Prop}{w:World}{g n cap:Nat}{xs:List α}(h:bU R sz e base M w (.slice (some ⟨g,0,none⟩) n cap) xs)(hn:xs.length=n)(j:Nat):w.frozen? ⟨g,j,none⟩=false:=by
 obtain⟨rows,h1,h2,_⟩:=h;subst hn;exact World.ownsRow.frozenAt h2 j
theorem zg:eH oh:=λ_ _ _ _ _ _ hM ⟨z,s,dv,sv,fv,pv,h0,h1,h2,h3,h4,h5,h6,h7,h8⟩=>⟨z,s,dv,sv,fv,pv,h0,h1,h2,h3,h4,h5.sans xl hM,h6.sans zh hM,h7.sans (λ_ _ _ _ _ _ _ h=>h) hM,h8.sans (λ_ _ _ _ _ _ _ h=>h) hM⟩
theorem CH:eH fk:=λ_ _ _ _ _ _ _ h=>h
theorem bU.formSome{α:Type}{R:World->Nat->List Value->α->Prop}{sz:Nat}{e:TypeId}{base:Nat}{M:Nat->Prop}{w:World}{v:Value}{xs:List α}{n:Nat}(h:bU R sz e base M w v xs)(hn:xs.length=n)(h0:0<n):∃ g cap,v = .slice (some ⟨g,0,none⟩) n cap/\base<=g/\g<w.heap.size/\M g:=by
 obtain⟨rows,h1,h2,h3,h4⟩:=h;subst hn;rcases h2.2 with ⟨rfl,h⟩ | ⟨g,cap,cur,rfl,hb,hg,_⟩
 ·omega
 ·exact⟨g,cap,rfl,hb,(eQ.1 hg).1,h3 g rfl⟩
def Sg(ps:List (Np.Span×Np.Signed)):Prop:=∀ p∈ps,p.1.frm<p.1.til
theorem FI{ps:List (Np.Span×Np.Signed)}(h:Sg ps)(s:Np.Signed):Np.Sh (Np.fX ps s):=λ_ ht=>h _ (Np.E8.1 ht)
theorem RH(ps:List (Np.Span×Np.Signed))(s:Np.Signed):(Np.fX ps s).length<=ps.length:=by
 unfold Np.fX;rw[List.length_map];exact List.length_filter_le _ _
end
end Go.Proofs.YtbfbobfbgabjiaaGreatDoor
