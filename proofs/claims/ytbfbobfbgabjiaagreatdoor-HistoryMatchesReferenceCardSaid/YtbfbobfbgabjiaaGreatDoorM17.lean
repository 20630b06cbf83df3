/- Parts of the proof. No condition. -/
import Derived.Test.YtbfbobfbgabjiaaGreatDoorM16
set_option linter.all false
set_option maxRecDepth 100000
set_option maxHeartbeats 8000000
namespace Go.Proofs.YtbfbobfbgabjiaaGreatDoor
open Go.Proofs.Tryz
section
open Go.RowKit
theorem YS(a b:ByteArray)(n1 n2 m1 m2:Int)(w:World):(binOp .neq 64 (.agg #[.string a,.int .i64 n1,.int .i64 n2]) (.agg #[.string b,.int .i64 m1,.int .i64 m2])).run prog w = .ok (.bool (!(a.toList == b.toList&&(n1 == m1&&n2 == m2)))) w:=by
 have u3:=underlying3;have a3:=isAgg3;have z3:=sizeOf3;have u9:=underlying9;have a9:=isAgg9;have z9:=sizeOf9;have hS:prog.underlying 64=some (.struct (prog.fieldsOf 64)):=by kernel_rfl
 have hp:prog.stoodInHeld 64=false:=by kernel_rfl
 rw[run_neq_struct,show (10000:Nat)=9999+1 from rfl,run_equalIn_agg w 9999 64 _ _ hS hp];simp only[Program.fieldsOf,underlying64];go_simp;by_cases h0:a.toList=b.toList <;> by_cases h1:n1=m1 <;> by_cases h2:n2=m2 <;> simp[h0,h1,h2]
theorem Pg(u v:Value)(xs:List (List UInt8))(w:World)(hu:SlR RTx 1 w w.heap.size u xs)(hv:SlR RTx 1 w w.heap.size v xs) :
 Calls prog 19 #[u,v] w λe w'=>e = .returned (.bool true)/\Below w.heap.size w w':=by
 have HU:=jq hu;have HV:=jq hv;obtain⟨A,c,rfl,bC,bH⟩:=ag hu;obtain⟨A2,c2,rfl,eB,dz⟩:=ag hv;clear hu hv;have CM:((xs.length:Int) != (xs.length:Int))=false:=by simp
 go_enter func19,ntmps19;go_wp2_with fail;go_loopw [5] (λi wr=>∃ k:Nat,k<=xs.length/\i = .int .i64 k/\Hid (Below w.heap.size w wr)) (λi _=>xs.length - (intOf i).toNat)
 case atStart=>exact⟨0,jQ _,rfl,jq (vQ _ _)⟩
 case round=>
  obtain⟨k,hk,rfl,HB⟩:=hrel;by_cases ab:k<xs.length
  ·obtain⟨A',c',hA,_,_,bU⟩:=HU.out.keep jk HB.out
   cases hA
   obtain⟨b,o,e,rfl,hb,_,hce,s,hs,_,rfl⟩:=bU k _ (aQ ab);obtain⟨A',c',hA,_,_,Qp⟩:=HV.out.keep jk HB.out
   cases hA
   obtain⟨b',o',e',rfl,hb',_,pk,s',hs',_,rfl⟩:=Qp k _ (aQ ab);have fW:s'=s:=iV (by rw[hs,hs']);subst fW;have f0:wr.cell? ⟨b,o+k,none⟩=some (.string s'):=by have:=hce 0 _ rfl; simpa using this
   have e0:wr.cell? ⟨b',o'+k,none⟩=some (.string s'):=by have:=pk 0 _ rfl; simpa using this
   have bW:(0:Int)<=(k:Int):=by omega
   have bV:(k:Int)<(xs.length:Int):=by omega
   have mZ:(s'.toList == s'.toList)=true:=by simp
   clear bU Qp hce pk hs hs';go_wp2_with fail;go_quiet (fail);go_wp2_with fail;go_roundw
   case rel=>exact⟨k+1,by omega,by go_num,jq (below_drewN HB.out _)⟩
   case measure=>simp[intOf] <;> omega
  ·go_wp2_with fail;go_ret;exact⟨rfl,HB.out⟩
def fS(W:World)(B:Nat)(e:List Value)(x:Np.Held):Prop:=∃ (z s:ByteArray) (dv sv fv pv:Value),e = [.string z,.string s,.int .i64 x.signed.set.type,.int .i64 x.signed.set.life,dv,sv,fv,pv]/\z.data.toList=x.zone/\z.size<=140737488355328/\s.data.toList=x.signed.set.name/\s.size<=140737488355328/\
 SlR cG 3 W B dv x.signed.set.data/\SlR fT 6 W B sv x.signed.sigs/\SlR cV 2 W B fv x.fresh/\SlR cV 2 W B pv x.spans
theorem ii:dK fS:=λ_ _ _ _ _ ⟨z,s,dv,sv,fv,pv,h0,h1,h2,h3,h4,h5,h6,h7,h8⟩ hb=>⟨z,s,dv,sv,fv,pv,h0,h1,h2,h3,h4,h5.keep cL hb,h6.keep gg hb,h7.keep fE hb,h8.keep fE hb⟩
theorem gU:dV fS:=λ_ _ _ _ _ ⟨z,s,dv,sv,fv,pv,h0,h1,h2,h3,h4,h5,h6,h7,h8⟩ hb=>⟨z,s,dv,sv,fv,pv,h0,h1,h2,h3,h4,h5.more dp hb,h6.more ij hb,h7.more jY hb,h8.more jY hb⟩
theorem AB{w:World}{B n c:Nat}{A:Option Addr}{xs:List Np.Held}(h:SlR fS 8 w B (.slice A n c) xs){k:Nat}{x:Np.Held}(hx:xs[k]?=some x):∃ (b o:Nat) (z s:ByteArray) (dv sv fv pv:Value),A=some ⟨b,o,none⟩/\b<B/\z.data.toList=x.zone/\s.data.toList=x.signed.set.name/\
 SlR cG 3 w B dv x.signed.set.data/\SlR fT 6 w B sv x.signed.sigs/\SlR cV 2 w B fv x.fresh/\SlR cV 2 w B pv x.spans/\
 w.cell? ⟨b,o+k * 8,none⟩=some (.string z)/\w.cell? ⟨b,o+k * 8+1,none⟩=some (.string s)/\w.cell? ⟨b,o+k * 8+2,none⟩=some (.int .i64 x.signed.set.type)/\w.cell? ⟨b,o+k * 8+3,none⟩=some (.int .i64 x.signed.set.life)/\w.cell? ⟨b,o+k * 8+4,none⟩=some dv/\w.cell? ⟨b,o+k * 8+5,none⟩=some sv/\w.cell? ⟨b,o+k * 8+6,none⟩=some fv/\w.cell? ⟨b,o+k * 8+7,none⟩=some pv:=by
 obtain⟨A',c',hA',_,_,bU⟩:=h
 cases hA'
 obtain⟨b,o,e,hA,cD,hlen,hce,z,s,dv,sv,fv,pv,he,h1,_,h3,_,h5,h6,h7,h8⟩:=bU k _ hx;subst he;exact⟨b,o,z,s,dv,sv,fv,pv,hA,cD,h1,h3,h5,h6,h7,h8,hce 0 _ rfl,hce 1 _ rfl,hce 2 _ rfl,hce 3 _ rfl,hce 4 _ rfl,hce 5 _ rfl,hce 6 _ rfl,hce 7 _ rfl⟩
theorem NV(u v:Value)(xs:List Np.Held)(w:World)(hu:SlR fS 8 w w.heap.size u xs)(hv:SlR fS 8 w w.heap.size v xs) :
 Calls prog 24 #[u,v] w λe w'=>e = .returned (.bool true)/\Below w.heap.size w w':=by
 have HU:=jq hu;have HV:=jq hv;obtain⟨A,c,rfl,bC,bH⟩:=ag hu;obtain⟨A2,c2,rfl,eB,dz⟩:=ag hv;clear hu hv;have CM:((xs.length:Int) != (xs.length:Int))=false:=by simp
 go_enter func24,ntmps24;go_wp2_with fail;go_loopw [5] (λi wr=>∃ k:Nat,k<=xs.length/\i = .int .i64 k/\Hid (Below w.heap.size w wr)) (λi _=>xs.length - (intOf i).toNat)
 case atStart=>exact⟨0,jQ _,rfl,jq (vQ _ _)⟩
 case round=>
  obtain⟨k,hk,rfl,HB⟩:=hrel;by_cases ab:k<xs.length
  ·obtain⟨b,o,z,s,dv,sv,fv,pv,rfl,hb,hz,hs,bd,aL,sM,xM,e0,e1,e2,e3,e4,e5,e6,e7⟩:=AB (HU.out.later ii gU HB.out) (aQ ab);obtain⟨b',o',z',s',dv',sv',fv',pv',rfl,hb',hz',hs',xI,lV,Lq,KK,f0,f1,f2,f3,f4,f5,f6,f7⟩:=AB (HV.out.later ii gU HB.out) (aQ ab);have fW:s'=s:=iV (by rw[hs,hs']);subst fW;have Er:z'=z:=iV (by rw[hz,hz']);subst Er;generalize xs[k]=x at *;have lZ:=jq bd;have Le:=jq xI;have ky:=jq aL;have Bq:=jq lV;have Lt:=jq sM;have aJK:=jq Lq;have vV:=jq xM;have aeK:=jq KK;obtain⟨S1,m1,rfl,_,_⟩:=ag aL;obtain⟨S2,m2,rfl,_,_⟩:=ag lV;obtain⟨D1,n1,rfl,_,_⟩:=ag bd;obtain⟨D2,n2,rfl,_,_⟩:=ag xI;obtain⟨F1,p1,rfl,_,_⟩:=ag sM;obtain⟨F2,p2,rfl,_,_⟩:=ag Lq;obtain⟨G1,q1,rfl,_,_⟩:=ag xM;obtain⟨G2,q2,rfl,_,_⟩:=ag KK;have bW:(0:Int)<=(k:Int):=by omega
   have bV:(k:Int)<(xs.length:Int):=by omega
   have lY:(z'.toList == z'.toList)=true:=by simp
   have kq:∀ (g:bE wr) (p:Addr),p.block<wr.heap.size->g.w.cell? p=wr.cell? p:=λg p h=>g.cell p h;have bT:∀ g:bE wr,Calls prog 30 #[.agg #[.string s',.int .i64 x.signed.set.type,.int .i64 x.signed.set.life,.slice D1 x.signed.set.data.length n1,.slice S1 x.signed.sigs.length m1],.agg #[.string s',.int .i64 x.signed.set.type,.int .i64 x.signed.set.life,.slice D2 x.signed.set.data.length n2,.slice S2 x.signed.sigs.length m2]] g.w λe w'=>e = .returned (.bool true)/\Below g.w.heap.size g.w w':=λg=>
    (C7 s' s' _ _ _ _ _ _ _ _ x.signed.set.data x.signed.set.data x.signed.sigs x.signed.sigs g.w (lZ.out.later cL dp g.below) (Le.out.later cL dp g.below) (ky.out.later gg ij g.below) (Bq.out.later gg ij g.below)).mono λe w' h=>⟨by rw[h.1]; simp,h.2⟩
   have RL:∀ g:bE wr,Calls prog 25 #[.slice F1 x.fresh.length p1,.slice F2 x.fresh.length p2] g.w λe w'=>e = .returned (.bool true)/\Below g.w.heap.size g.w w':=λg=>
    (Db _ _ x.fresh x.fresh g.w (Lt.out.later fE jY g.below) (aJK.out.later fE jY g.below)).mono λe w' h=>⟨by rw[h.1]; simp,h.2⟩
   have SR:∀ g:bE wr,Calls prog 25 #[.slice G1 x.spans.length q1,.slice G2 x.spans.length q2] g.w λe w'=>e = .returned (.bool true)/\Below g.w.heap.size g.w w':=λg=>
    (Db _ _ x.spans x.spans g.w (vV.out.later fE jY g.below) (aeK.out.later fE jY g.below)).mono λe w' h=>⟨by rw[h.1]; simp,h.2⟩
   have iC:=jq bT;have aTK:=jq RL;have aiX:=jq SR;clear bT RL SR hs hs' hz hz' aL lV bd xI sM Lq xM KK;go_wp2_with fail;refine en (by kernel_rfl) (by kernel_rfl) ?_
   repeat (go_big_quiet_step (fail))
   go_big_quiet_step ((go_at_call 30; exact Calls.grow_of (iC.out _)))
   repeat (go_big_quiet_step (fail))
   go_big_quiet_step ((go_at_call 25; exact Calls.grow_of (aTK.out _)))
   repeat (go_big_quiet_step (fail))
   go_big_quiet_step ((go_at_call 25; exact Calls.grow_of (aiX.out _)))
   repeat (go_big_quiet_step (fail))
   refine wpQuiet_nil ?_;rintro _ ⟨g,rfl⟩;go_wp2_with fail;go_roundw
   case rel=>exact⟨k+1,by omega,by go_num,jq (HB.out.trans (g.below.mono HB.out.size))⟩
   case measure=>simp[intOf] <;> omega
  ·go_wp2_with fail;go_ret;exact⟨rfl,HB.out⟩
theorem ox{w w':World}{n:Nat}(l:List Value)(T:TypeId)(hn:w.heap.size=n)(he:w'=w.alloc (.cells l.toArray T)):cN w' n 0 l:=by subst hn; subst he; exact L8 w l T
theorem cN.move{w w':World}{b o:Nat}{e:List Value}(h:cN w b o e)(hb:w'.heap[b]?=w.heap[b]?):cN w' b o e:=λj v hj=>(iQ (a:=⟨b,o+j,none⟩) hb).trans (h j v hj)
structure OneAt(n:Nat)(w:World)(b:Nat)(l:List Value):Prop where
 lo:n<=b
 hi:b<w.heap.size
 cells:cN w b 0 l
theorem OneAt.keep{n:Nat}{w w':World}{b:Nat}{l:List Value}(h:OneAt n w b l)(hb:Below w.heap.size w w'):OneAt n w' b l:=⟨h.lo,lQ h.hi hb.size,h.cells.keep hb h.hi⟩
theorem O3(a b:Int)(w:World):Calls prog 38 #[.int .i64 a,.int .i64 b] w λe w'=>∃ f,e = .returned (.slice (some ⟨f,0,none⟩) 1 1)/\OneAt w.heap.size w' f [.int .i64 a,.int .i64 b]/\Below w.heap.size w w':=by
 go_enter func38,ntmps38;go_wp2_with fail;exact bodyPost_ret (v:=.slice (some ⟨w.heap.size,0,none⟩) 1 1) (by simp[results,results38,go_sem]) rfl ⟨_,rfl,⟨bQ _,by simp,L8 w _ _⟩,(vQ _ _).alloc (bQ _) _⟩
theorem Nc(k:Int)(t:ByteArray)(n m:Int)(w:World):Calls prog 90 #[.int .i64 k,.agg #[.string t,.int .i64 n,.int .i64 m]] w λe w'=>∃ b,e = .returned (.agg #[.string ⟨#[120]⟩,.int .i64 k,.int .i64 60,.slice (some ⟨b,0,none⟩) 1 1,.slice none 0 0])/\OneAt w.heap.size w' b [.string t,.int .i64 n,.int .i64 m]/\Below w.heap.size w w':=by
 go_enter func90,ntmps90;go_wp2_with fail;refine bodyPost_ret (v:=.agg #[.string ⟨#[120]⟩,.int .i64 k,.int .i64 60,.slice (some ⟨w.heap.size+1+1,0,none⟩) 1 1,.slice none 0 0]) (by simp[results,results90,go_sem]) rfl ⟨_,rfl,⟨by omega,by simp,ox _ _ (by simp) rfl⟩,?_⟩;exact (((vQ _ _).alloc (bQ _) _).alloc (by simp) _).alloc (by simp <;> omega) _
structure VerAt(n:Nat)(w:World)(b b1 b2:Nat)(k:Int):Prop where
 row:OneAt n w b [.string ⟨#[120]⟩,.int .i64 2,.int .i64 60,.slice (some ⟨b1,0,none⟩) 1 1,.slice none 0 0,.string ⟨#[120]⟩,.int .i64 4,.int .i64 60,.slice (some ⟨b2,0,none⟩) 1 1,.slice none 0 0]
 d1:OneAt n w b1 [.string ⟨#[97,46,110,115]⟩,.int .i64 0,.int .i64 0]
 d2:OneAt n w b2 [.string ⟨#[]⟩,.int .i64 k,.int .i64 9]
theorem VerAt.keep{n:Nat}{w w':World}{b b1 b2:Nat}{k:Int}(h:VerAt n w b b1 b2 k)(hb:Below w.heap.size w w'):VerAt n w' b b1 b2 k:=⟨h.row.keep hb,h.d1.keep hb,h.d2.keep hb⟩
theorem OneAt.off{n:Nat}{w:World}{b:Nat}{l:List Value}(h:OneAt n w b l){M:Nat->Prop}(hM:∀ k,M k->0<=k/\k<n):cN (bp w M) b 0 l:=h.cells.off (λe=>by have:=hM b e; have:=h.lo; omega)
theorem NJ{w:World}{B b:Nat}(hb:b<B)(h:cN w b 0 [.string ⟨#[97,46,110,115]⟩,.int .i64 0,.int .i64 0]):SlR cG 3 w B (.slice (some ⟨b,0,none⟩) 1 1) Np.rN.set.data:=
 pC (R:=cG) [.string ⟨#[97,46,110,115]⟩,.int .i64 0,.int .i64 0] hb h ⟨⟨#[97,46,110,115]⟩,rfl,by decide,rfl⟩
theorem GV{w:World}{B b:Nat}{k:Int}(hb:b<B)(h:cN w b 0 [.string ⟨#[]⟩,.int .i64 k,.int .i64 9]):SlR cG 3 w B (.slice (some ⟨b,0,none⟩) 1 1) (Np.oM k).set.data:=
 pC (R:=cG) [.string ⟨#[]⟩,.int .i64 k,.int .i64 9] hb h ⟨⟨#[]⟩,rfl,by decide,rfl⟩
theorem VerAt.around{n:Nat}{w:World}{b b1 b2:Nat}{k:Int}(h:VerAt n w b b1 b2 k):fP bK 5 0 n w (.slice (some ⟨b,0,none⟩) 2 2) (Np.dC k).sets:=λM hM=>
 DX (R:=bK) [.string ⟨#[120]⟩,.int .i64 2,.int .i64 60,.slice (some ⟨b1,0,none⟩) 1 1,.slice none 0 0] [.string ⟨#[120]⟩,.int .i64 4,.int .i64 60,.slice (some ⟨b2,0,none⟩) 1 1,.slice none 0 0] rfl h.row.hi (h.row.off hM)
  ⟨⟨#[120]⟩,_,_,rfl,by decide,NJ h.d1.hi (h.d1.off hM),mH _ _ _ _,rfl⟩
  ⟨⟨#[120]⟩,_,_,rfl,by decide,GV h.d2.hi (h.d2.off hM),mH _ _ _ _,rfl⟩
theorem tr(n:Int)(w:World):Calls prog 39 #[.int .i64 n] w λe w'=>∃ b b1 b2,e = .returned (.agg #[.string ⟨#[120]⟩,.slice (some ⟨b,0,none⟩) 2 2])/\VerAt w.heap.size w' b b1 b2 n/\Below w.heap.size w w':=by
 go_enter func39,ntmps39;go_wp2_with fail;obtain⟨X,hX⟩:∃ X,w.heap.size=X:=⟨_,rfl⟩;obtain⟨w1,al⟩:∃ w1,w.alloc (.cells #[.string ⟨#[]⟩,.slice none 0 0] 56)=w1:=⟨_,rfl⟩;have bI:w1.heap.size=X+1:=by rw[<-al,<-hX]; simp
 have aq:Below X w w1:=by rw[<-al,<-hX]; exact (vQ _ _).alloc (bQ _) _
 have aU:w1.heap[X]?=some (.cells #[.string ⟨#[]⟩,.slice none 0 0] 56):=by rw[<-al,<-hX]; exact heap_alloc_new _ _
 rw[al,hX];clear al;refine (Nc 2 ⟨#[97,46,110,115]⟩ 0 0 w1).mono ?_;rintro e w2 ⟨b1,rfl,h1,aa⟩;have aN:=aa.size;replace aU:=(aa.block X (by omega)).trans aU;have ak:=jq (aq.trans (aa.mono (by omega)));have H1:=jq h1;clear h1 aq aa;go_wp2_with fail;refine (Nc 4 ⟨#[]⟩ n 9 w2).mono ?_;rintro e w3 ⟨b2,rfl,h2,ah⟩;have dP:=ah.size;replace aU:=(ah.block X (by omega)).trans aU;have av:=jq (ak.out.trans (ah.mono (by omega)));have H1':=jq (H1.out.keep ah);have H2:=jq h2;clear h2 ah;have y0:w3.cell? ⟨X,0,none⟩=some (.string ⟨#[]⟩):=by simp[World.cell?,aU]
 have z0:w3.frozen? ⟨X,0,none⟩=false:=by simp[World.frozen?,aU]
 have y1:w3.cell? ⟨X,1,none⟩=some (.slice none 0 0):=by simp[World.cell?,aU]
 have z1:w3.frozen? ⟨X,1,none⟩=false:=by simp[World.frozen?,aU]
 have Fss:X<w3.heap.size:=by omega
 go_wp2_with fail;obtain⟨W0,dS⟩:∃ W0,(w3.setCell ⟨X,0,none⟩ (.string ⟨#[120]⟩)).setCell ⟨X,1,none⟩ (.slice (some ⟨w3.heap.size,0,none⟩) 2 2)=W0:=⟨_,rfl⟩;have ph:W0.heap.size=w3.heap.size:=by rw[<-dS]; simp
 have iv:∀ k,k≠X->W0.heap[k]?=w3.heap[k]?:=λk hk=>by rw[<-dS]; exact (wQ _ _ _ k hk).trans (wQ _ _ _ k hk)
 have mq:Below X w W0:=by rw[<-dS]; exact (av.out.setCell (p:=⟨X,0,none⟩) (bQ _) _).setCell (p:=⟨X,1,none⟩) (bQ _) _
 have e0:W0.cell? ⟨X,0,none⟩=some (.string ⟨#[120]⟩):=by rw[<-dS]; simp[go_sem,y0]
 have e1:W0.cell? ⟨X,1,none⟩=some (.slice (some ⟨w3.heap.size,0,none⟩) 2 2):=by rw[<-dS]; simp[go_sem,y1]
 rw[dS];obtain⟨W,hW⟩:∃ W,W0.alloc (.cells #[.string ⟨#[120]⟩,.int .i64 2,.int .i64 60,.slice (some ⟨b1,0,none⟩) 1 1,.slice none 0 0,.string ⟨#[120]⟩,.int .i64 4,.int .i64 60,.slice (some ⟨b2,0,none⟩) 1 1,.slice none 0 0] 68)=W:=⟨_,rfl⟩;have hcW:cN W w3.heap.size 0 [.string ⟨#[120]⟩,.int .i64 2,.int .i64 60,.slice (some ⟨b1,0,none⟩) 1 1,.slice none 0 0,.string ⟨#[120]⟩,.int .i64 4,.int .i64 60,.slice (some ⟨b2,0,none⟩) 1 1,.slice none 0 0]:=ox _ _ ph hW.symm;have Er:W.heap.size=w3.heap.size+1:=by rw[<-hW,World.size_alloc,ph]
 have iK:∀ k,k<w3.heap.size->k≠X->W.heap[k]?=w3.heap[k]?:=λk h1 h2=>by rw[<-hW]; exact (Below.heap_alloc W0 _ k (by omega)).trans (iv k h2)
 have f0:W.cell? ⟨X,0,none⟩=some (.string ⟨#[120]⟩):=by rw[<-hW]; exact (iQ (a:=⟨X,0,none⟩) (Below.heap_alloc W0 _ X (by omega))).trans e0
 have f1:W.cell? ⟨X,1,none⟩=some (.slice (some ⟨w3.heap.size,0,none⟩) 2 2):=by rw[<-hW]; exact (iQ (a:=⟨X,1,none⟩) (Below.heap_alloc W0 _ X (by omega))).trans e1
 have vM:Below X w W:=by rw[<-hW]; exact mq.alloc (by omega) _
 rw[hW];refine bodyPost_ret (v:=.agg #[.string ⟨#[120]⟩,.slice (some ⟨w3.heap.size,0,none⟩) 2 2]) (by simp[results,results39,go_sem,f0,f1]) rfl ⟨_,b1,b2,rfl,⟨⟨by omega,by omega,hcW⟩,⟨?_,?_,?_⟩,⟨?_,?_,?_⟩⟩,by rw[hX]; exact vM⟩
 ·have:=H1'.out.lo; omega
 ·have:=H1'.out.hi; omega
 ·exact H1'.out.cells.move (iK b1 H1'.out.hi (by have:=H1'.out.lo; omega))
 ·have:=H2.out.lo; omega
 ·have:=H2.out.hi; omega
 ·exact H2.out.cells.move (iK b2 H2.out.hi (by have:=H2.out.lo; omega))
def qz(s:ByteArray)(ty lf:Int)(dA:Option Addr)(dn dc:Nat)(gA:Option Addr)(gn gc:Nat)(a b:Int)(e3:Value)(i:Nat):Value:=[.agg #[.string s,.int .i64 ty,.int .i64 lf,.slice dA dn dc,.slice gA gn gc],.int .i64 a,.int .i64 b,e3,.agg #[.string ⟨#[120]⟩,.string s,.int .i64 ty,.int .i64 lf,.slice dA dn dc,.slice gA gn gc,e3,.slice none 0 0],undef].getD i undef
def mI(i:Nat):Nat:=[9,10,11,12,13,0].getD i 0
def Ib:List Nat:=[0,1,2,4,3].map mI
theorem yg:∀ i∈[0,1,2,4,3],mI i<14/\mI i∈Ib:=by decide
theorem GK:∀ i∈[0,1,2,4,3],∀ j∈[0,1,2,4,3],j≠i->mI i≠mI j:=by decide
theorem Hn(k:Int)(s:ByteArray)(ty lf:Int)(dA:Option Addr)(dn dc:Nat)(gA:Option Addr)(gn gc:Nat)(a b:Int)(w:World):Calls prog 37 #[.int .i64 k,.agg #[.string s,.int .i64 ty,.int .i64 lf,.slice dA dn dc,.slice gA gn gc],.int .i64 a,.int .i64 b] w λe w'=>∃ f,e = .returned (.agg #[.string ⟨#[120]⟩,.string s,.int .i64 ty,.int .i64 lf,.slice dA dn dc,.slice gA gn gc,.slice (some ⟨f,0,none⟩) 1 1,.slice none 0 0])/\OneAt w.heap.size w' f [.int .i64 a,.int .i64 b]/\Below w.heap.size w w':=by
 obtain⟨X,hX⟩:∃ X,w.heap.size=X:=⟨_,rfl⟩;obtain⟨w2,ai⟩:∃ w2,(w.alloc (.cells #[.string s,.int .i64 ty,.int .i64 lf,.slice dA dn dc,.slice gA gn gc] 68)).alloc (.cells #[.string ⟨#[]⟩,.string ⟨#[]⟩,.int .i64 0,.int .i64 0,.slice none 0 0,.slice none 0 0,.slice none 0 0,.slice none 0 0] 70)=w2:=⟨_,rfl⟩;have aN:w2.heap.size=X+2:=by rw[<-ai,<-hX]; simp
 have ak:Hid (Below X w w2):=jq (by rw[<-ai,<-hX]; exact ((vQ _ _).alloc (bQ _) _).alloc (by simp) _);have aU:w2.heap[X+1]?=some (.cells #[.string ⟨#[]⟩,.string ⟨#[]⟩,.int .i64 0,.int .i64 0,.slice none 0 0,.slice none 0 0,.slice none 0 0,.slice none 0 0] 70):=by
  rw[<-ai,<-hX]
  have:=heap_alloc_new (w.alloc (.cells #[.string s,.int .i64 ty,.int .i64 lf,.slice dA dn dc,.slice gA gn gc] 68)) (.cells #[.string ⟨#[]⟩,.string ⟨#[]⟩,.int .i64 0,.int .i64 0,.slice none 0 0,.slice none 0 0,.slice none 0 0,.slice none 0 0] 70)
  simpa using this
 have p0:w2.cell? ⟨X,0,none⟩=some (.string s):=by rw[<-ai,<-hX]; simp[go_sem]
 have p1:w2.cell? ⟨X,1,none⟩=some (.int .i64 ty):=by rw[<-ai,<-hX]; simp[go_sem]
 have p2:w2.cell? ⟨X,2,none⟩=some (.int .i64 lf):=by rw[<-ai,<-hX]; simp[go_sem]
 have p3:w2.cell? ⟨X,3,none⟩=some (.slice dA dn dc):=by rw[<-ai,<-hX]; simp[go_sem]
 have p4:w2.cell? ⟨X,4,none⟩=some (.slice gA gn gc):=by rw[<-ai,<-hX]; simp[go_sem]
 rw[hX];go_enter func37,ntmps37;go_wp2_with fail;clear ai hX;refine AF λa0 bi=>?_;have jg:=jq bi;have mW:=jq (show a0.eval (.tmp 5) = .pointer (some ⟨X,0,none⟩) by rw[bi]; rfl);have oq:=jq (show a0.eval (.tmp 2) = .int .i64 a by rw[bi]; rfl);have pX:=jq (show a0.eval (.tmp 3) = .int .i64 b by rw[bi]; rfl);have CS:=jq (show a0.eval (.tmp 8) = .pointer (some ⟨X+1,0,none⟩) by rw[bi]; rfl);have HM:=jq (show a0.tmps.size=14 by rw[bi]; rfl);clear bi;refine wp_region_any (by kernel_rfl) ?_;refine fN (w:=w2.drew) (D:=[0,1,2]) (A:=[]) (p:=3) (dst:=mI) (val:=qz s ty lf dA dn dc gA gn gc a b undef) (m:=14)
  (base:=dt a0 14 Ib) (fM (by kernel_rfl)) (by simp) (by simp) (fD (by kernel_rfl)) ?_
  (λi hi=>(yg i (by simp at hi |-; omega)).1) (λi hi j hj=>GK i (by simp at hi |-; omega) j (by simp at hj |-; omega)) (λi hi=>cx (yg i (by simp at hi |-; omega)).2) ?_ ?_ _ _ _ (Held.start (λq hq=>pw q hq) HM.out)
 ·intro i hi ar;simp only[List.mem_cons,Qh,or_false] at hi;rcases hi with rfl | rfl | rfl
  all_goals first | (exfalso; simp at ar; done) | exact⟨_,rfl,rfl⟩
 ·intro i hi ar o ho a' hb aR;have k5':=(aT hb (j:=5) (by decide) (by decide)).trans mW.out;have k2':=(aT hb (j:=2) (by decide) (by decide)).trans oq.out;have k3':=(aT hb (j:=3) (by decide) (by decide)).trans pX.out;have k8':=(aT hb (j:=8) (by decide) (by decide)).trans CS.out;simp[Act.eval] at k5' k2' k3' k8';simp only[List.mem_cons,Qh,or_false] at hi;rcases hi with rfl | rfl | rfl
  all_goals first
   | (exfalso; simp at ar; done)
   | (cases ho
      try simp[Act.eval,Region.binds,qz,mI] at aR
      refine .inl ⟨by simp[Region.wanted],λw' hw'=>?_⟩;subst hw';simp[Oper.quietAt,Oper.quietUpon,execOp,go_sem,qz,k5',k2',k3',k8',p0,p1,p2,p3,p4,aR])
 ·intro f listed a' hH hr;obtain⟨_,o,ho,ax⟩:=mem_ready.1 hr
  cases ho
  have hG:=hH.good;have hval:=λi hi hl=>hG.val i hi hl;have bB:∀ k,({ on:=k,ground:=.data } : Edge)∈_->listed.getD k false=true:=λk hk=>ax _ hk rfl;have av1:=hval 1 (by simp) (bB 1 (by simp));have av2:=hval 2 (by simp) (bB 2 (by simp));simp[Act.eval,qz,mI] at av1 av2;simp only[wpOp];simp[Region.wanted];refine .inl ?_;simp[Oper.wp,go_sem,av1,av2];refine (O3 a b w2.drew).mono ?_;rintro e w3 ⟨f,rfl,hv,hb'⟩;have hb:Below w2.heap.size w2 w3:=(vQ w2.heap.size w2).drew.trans hb';have dP:=hb.size;replace p0:=(cl hb (by omega)).trans p0;replace p1:=(cl hb (by omega)).trans p1;replace p2:=(cl hb (by omega)).trans p2;replace p3:=(cl hb (by omega)).trans p3;replace p4:=(cl hb (by omega)).trans p4;replace aU:=(hb.block (X+1) (by omega)).trans aU;have HV:Hid (w2.heap.size<=f/\f<w3.heap.size/\cN w3 f 0 [.int .i64 a,.int .i64 b]):=jq ⟨hv.lo,hv.hi,hv.cells⟩;have av:=jq (ak.out.trans (hb.mono (by omega)));clear hv hb hb';dsimp only;refine fN (w:=w3) (D:=[0,1,2,4,3]) (A:=[3]) (p:=5) (dst:=mI) (val:=qz s ty lf dA dn dc gA gn gc a b (.slice (some ⟨f,0,none⟩) 1 1)) (m:=14)
   (base:=dt a0 14 Ib) (fM (by kernel_rfl)) (by simp) (by simp) (fD (by kernel_rfl)) ?_
   (λi hi=>(yg i (by simp at hi |-; omega)).1) (λi hi j hj=>GK i (by simp at hi |-; omega) j (by simp at hj |-; omega)) (λi hi=>cx (yg i (by simp at hi |-; omega)).2) ?_ ?_ _ _ _ (hH.act (D':=[0,1,2,4,3]) (val':=qz s ty lf dA dn dc gA gn gc a b (.slice (some ⟨f,0,none⟩) 1 1)) hr (by simp) (λi hi=>by simp at hi |-; omega) (λi hi=>by simp at hi; rcases hi with rfl | rfl | rfl <;> rfl) rfl (by simp[mI]) (λj hj=>GK 3 (by simp) j (by simp at hj |-; omega) (by rintro rfl; simp at hj)) (cx (yg 3 (by simp)).2) (by simp))
  ·intro i hi ar;simp only[List.mem_cons,Qh,or_false] at hi;rcases hi with rfl | rfl | rfl | rfl | rfl
   all_goals first | (exfalso; simp at ar; done) | exact⟨_,rfl,rfl⟩
  ·intro i hi ar o ho a' hb aR;have k5':=(aT hb (j:=5) (by decide) (by decide)).trans mW.out;have k2':=(aT hb (j:=2) (by decide) (by decide)).trans oq.out;have k3':=(aT hb (j:=3) (by decide) (by decide)).trans pX.out;have k8':=(aT hb (j:=8) (by decide) (by decide)).trans CS.out;simp[Act.eval] at k5' k2' k3' k8';simp only[List.mem_cons,Qh,or_false] at hi;rcases hi with rfl | rfl | rfl | rfl | rfl
   all_goals first
    | (exfalso; simp at ar; done)
    | (cases ho
       try simp[Act.eval,Region.binds,qz,mI] at aR
       refine .inl ⟨by simp[Region.wanted],λw' hw'=>?_⟩;subst hw';simp[Oper.quietAt,Oper.quietUpon,execOp,go_sem,qz,k5',k2',k3',k8',p0,p1,p2,p3,p4,aR])
  ·intro f listed a' hH hr;obtain⟨_,o,ho,ax⟩:=mem_ready.1 hr
   cases ho
   have hG:=hH.good;have hval:=λi hi hl=>hG.val i hi hl;have bB:∀ k,({ on:=k,ground:=.data } : Edge)∈_->listed.getD k false=true:=λk hk=>ax _ hk rfl;obtain⟨rfl,bY⟩:=hH.all hr (by kernel_rfl);have av4:=hval 4 (by simp) (bY 4 (by simp) (by simp));simp[Act.eval,qz,mI] at av4;have gE:=Held.frame (D:=[0,1,2,4,3]) (dst:=mI) (a0:=a0) (m:=14) hH HM.out (λi hi=>bY i (by simp at hi |-; omega) (by simp at hi; omega)) (λi hi=>(yg i (by simp at hi |-; omega)).1);simp only[wpOp];simp[Region.wanted];refine .inl ?_;have y0:w3.cell? ⟨X+1,0,none⟩=some (.string ⟨#[]⟩):=by simp[World.cell?,aU]
   have z0:w3.frozen? ⟨X+1,0,none⟩=false:=by simp[World.frozen?,aU]
   have y1:w3.cell? ⟨X+1,1,none⟩=some (.string ⟨#[]⟩):=by simp[World.cell?,aU]
   have z1:w3.frozen? ⟨X+1,1,none⟩=false:=by simp[World.frozen?,aU]
   have y2:w3.cell? ⟨X+1,2,none⟩=some (.int .i64 0):=by simp[World.cell?,aU]
   have z2:w3.frozen? ⟨X+1,2,none⟩=false:=by simp[World.frozen?,aU]
   have y3:w3.cell? ⟨X+1,3,none⟩=some (.int .i64 0):=by simp[World.cell?,aU]
   have z3:w3.frozen? ⟨X+1,3,none⟩=false:=by simp[World.frozen?,aU]
   have y4:w3.cell? ⟨X+1,4,none⟩=some (.slice none 0 0):=by simp[World.cell?,aU]
   have z4:w3.frozen? ⟨X+1,4,none⟩=false:=by simp[World.frozen?,aU]
   have y5:w3.cell? ⟨X+1,5,none⟩=some (.slice none 0 0):=by simp[World.cell?,aU]
   have z5:w3.frozen? ⟨X+1,5,none⟩=false:=by simp[World.frozen?,aU]
   have y6:w3.cell? ⟨X+1,6,none⟩=some (.slice none 0 0):=by simp[World.cell?,aU]
   have z6:w3.frozen? ⟨X+1,6,none⟩=false:=by simp[World.frozen?,aU]
   have y7:w3.cell? ⟨X+1,7,none⟩=some (.slice none 0 0):=by simp[World.cell?,aU]
   have z7:w3.frozen? ⟨X+1,7,none⟩=false:=by simp[World.frozen?,aU]
   have k8':=(aT hG.base (j:=8) (by decide) (by decide)).trans CS.out;simp[Act.eval] at k8';simp[Oper.wp,execOp,go_sem,av4,k8',y0,z0,y1,z1,y2,z2,y3,z3,y4,z4,y5,z5,y6,z6,y7,z7];refine⟨pz (λi hi=>?_) (by rw[Array.size_setIfInBounds]; exact hG.size),?_⟩
   ·by_cases hip:i=5
    ·subst hip;have hs:5<listed.size:=by rw[hG.size]; exact hi
     simp[Array.getD,hs]
    ·exact kL (bY i hi hip)
   ·rw[gE,jg.out];simp[jJ,Act.put,qz,mI];clear gE hval bB bY ax hG hH;obtain⟨W',hW'⟩:∃ W',((((((((w3.setCell ⟨X+1,0,none⟩ (.string ⟨#[120]⟩)).setCell ⟨X+1,1,none⟩ (.string s)).setCell ⟨X+1,2,none⟩ (.int .i64 ty)).setCell ⟨X+1,3,none⟩ (.int .i64 lf)).setCell ⟨X+1,4,none⟩ (.slice dA dn dc)).setCell ⟨X+1,5,none⟩ (.slice gA gn gc)).setCell ⟨X+1,6,none⟩ (.slice (some ⟨f,0,none⟩) 1 1)).setCell ⟨X+1,7,none⟩ (.slice none 0 0))=W':=⟨_,rfl⟩;have ph:W'.heap.size=w3.heap.size:=by rw[<-hW']; simp
    have iv:∀ k,k≠X+1->W'.heap[k]?=w3.heap[k]?:=λk hk=>by rw[<-hW']; exact ((wQ _ _ _ k hk).trans ((wQ _ _ _ k hk).trans ((wQ _ _ _ k hk).trans ((wQ _ _ _ k hk).trans ((wQ _ _ _ k hk).trans ((wQ _ _ _ k hk).trans ((wQ _ _ _ k hk).trans (wQ _ _ _ k hk))))))))
    have ay:Hid (Below X w W'):=jq (by rw[<-hW']; exact ((((((((av.out.setCell (p:=⟨X+1,0,none⟩) (by dsimp only; omega) _).setCell (p:=⟨X+1,1,none⟩) (by dsimp only; omega) _).setCell (p:=⟨X+1,2,none⟩) (by dsimp only; omega) _).setCell (p:=⟨X+1,3,none⟩) (by dsimp only; omega) _).setCell (p:=⟨X+1,4,none⟩) (by dsimp only; omega) _).setCell (p:=⟨X+1,5,none⟩) (by dsimp only; omega) _).setCell (p:=⟨X+1,6,none⟩) (by dsimp only; omega) _).setCell (p:=⟨X+1,7,none⟩) (by dsimp only; omega) _));have e0:W'.cell? ⟨X+1,0,none⟩=some (.string ⟨#[120]⟩):=by rw[<-hW']; simp[go_sem,y0]
    have e1:W'.cell? ⟨X+1,1,none⟩=some (.string s):=by rw[<-hW']; simp[go_sem,y1]
    have e2:W'.cell? ⟨X+1,2,none⟩=some (.int .i64 ty):=by rw[<-hW']; simp[go_sem,y2]
    have e3:W'.cell? ⟨X+1,3,none⟩=some (.int .i64 lf):=by rw[<-hW']; simp[go_sem,y3]
    have e4:W'.cell? ⟨X+1,4,none⟩=some (.slice dA dn dc):=by rw[<-hW']; simp[go_sem,y4]
    have e5:W'.cell? ⟨X+1,5,none⟩=some (.slice gA gn gc):=by rw[<-hW']; simp[go_sem,y5]
    have e6:W'.cell? ⟨X+1,6,none⟩=some (.slice (some ⟨f,0,none⟩) 1 1):=by rw[<-hW']; simp[go_sem,y6]
    have e7:W'.cell? ⟨X+1,7,none⟩=some (.slice none 0 0):=by rw[<-hW']; simp[go_sem,y7]
    rw[hW'];go_wp2_with fail;refine bodyPost_ret (v:=.agg #[.string ⟨#[120]⟩,.string s,.int .i64 ty,.int .i64 lf,.slice dA dn dc,.slice gA gn gc,.slice (some ⟨f,0,none⟩) 1 1,.slice none 0 0]) (by simp[results,results37,go_sem,e0,e1,e2,e3,e4,e5,e6,e7]) rfl ⟨_,rfl,⟨by have:=HV.out.1; omega,by have:=HV.out.2.1; omega,HV.out.2.2.move (iv f (by have:=HV.out.1; omega))⟩,ay.out⟩
structure ExAt(n:Nat)(w:World)(e:List Value)(hb cb db ib v1 v2 v3:Nat):Prop where
 val:e = [.slice (some ⟨hb,0,none⟩) 2 2,.slice (some ⟨cb,0,none⟩) 3 3,.string ⟨#[46]⟩,.int .i64 6,.int .i64 60,.slice (some ⟨db,0,none⟩) 1 1,.slice (some ⟨ib,0,none⟩) 1 1,.int .i64 0,.int .i64 40]
 hosts:OneAt n w hb [.string ⟨#[97,46,110,115]⟩,.int .i64 1,.int .i64 0,.string ⟨#[98,46,110,115]⟩,.int .i64 2,.int .i64 0]
 copies:OneAt n w cb [.int .i64 0,.int .i64 0,.int .i64 10,.string ⟨#[120]⟩,.slice (some ⟨v1,0,none⟩) 2 2,.int .i64 0,.int .i64 10,.int .i64 30,.string ⟨#[120]⟩,.slice (some ⟨v2,0,none⟩) 2 2,.int .i64 1,.int .i64 5,.int .i64 20,.string ⟨#[120]⟩,.slice (some ⟨v3,0,none⟩) 2 2]
 obj:w.heap[cb]?=some (.cells #[.int .i64 0,.int .i64 0,.int .i64 10,.string ⟨#[120]⟩,.slice (some ⟨v1,0,none⟩) 2 2,.int .i64 0,.int .i64 10,.int .i64 30,.string ⟨#[120]⟩,.slice (some ⟨v2,0,none⟩) 2 2,.int .i64 1,.int .i64 5,.int .i64 20,.string ⟨#[120]⟩,.slice (some ⟨v3,0,none⟩) 2 2] 58)
 data:OneAt n w db [.string ⟨#[]⟩,.int .i64 1,.int .i64 1]
 hints:OneAt n w ib [.int .i64 1]
 ne:hb≠cb/\db≠cb/\ib≠cb
 z1:∀ M:Nat->Prop,(∀ k,M k->k<n\/k=cb)->SlR bK 5 (bp w M) w.heap.size (.slice (some ⟨v1,0,none⟩) 2 2) (Np.dC 1).sets
 z2:∀ M:Nat->Prop,(∀ k,M k->k<n\/k=cb)->SlR bK 5 (bp w M) w.heap.size (.slice (some ⟨v2,0,none⟩) 2 2) (Np.dC 2).sets
 z3:∀ M:Nat->Prop,(∀ k,M k->k<n\/k=cb)->SlR bK 5 (bp w M) w.heap.size (.slice (some ⟨v3,0,none⟩) 2 2) (Np.dC 1).sets
theorem VG(w:World):Calls prog 36 #[] w λe w'=>∃ e' hb cb db ib v1 v2 v3,e = .returned (.agg e'.toArray)/\ExAt w.heap.size w' e' hb cb db ib v1 v2 v3/\Below w.heap.size w w':=by
 obtain⟨X,hX⟩:∃ X,w.heap.size=X:=⟨_,rfl⟩;obtain⟨w1,al⟩:∃ w1,((w.alloc (.cells #[.slice none 0 0,.slice none 0 0,.string ⟨#[]⟩,.int .i64 0,.int .i64 0,.slice none 0 0,.slice none 0 0,.int .i64 0,.int .i64 0] 29)).alloc (.cells #[.string ⟨#[]⟩,.int .i64 1,.int .i64 1] 96)).alloc (.cells #[.string ⟨#[46]⟩,.int .i64 6,.int .i64 60,.slice (some ⟨X+1,0,none⟩) 1 1] 26)=w1:=⟨_,rfl⟩;have bI:w1.heap.size=X+3:=by rw[<-al,<-hX]; simp
 have aF:Hid (Below X w w1):=jq (by rw[<-al,<-hX]; exact (((vQ _ _).alloc (bQ _) _).alloc (by simp) _).alloc (by simp <;> omega) _);have aU:w1.heap[X]?=some (.cells #[.slice none 0 0,.slice none 0 0,.string ⟨#[]⟩,.int .i64 0,.int .i64 0,.slice none 0 0,.slice none 0 0,.int .i64 0,.int .i64 0] 29):=by
  rw[<-al,<-hX];exact (Below.heap_alloc _ _ _ (by simp <;> omega)).trans ((Below.heap_alloc _ _ _ (by simp)).trans (heap_alloc_new _ _))
 have eI:cN w1 (X+1) 0 [.string ⟨#[]⟩,.int .i64 1,.int .i64 1]:=by
  rw[<-al,<-hX];exact (ox (n:=w.heap.size+1) [.string ⟨#[]⟩,.int .i64 1,.int .i64 1] 96 (by simp) rfl).move (Below.heap_alloc _ _ _ (by simp))
 have oZ:cN w1 (X+1+1) 0 [.string ⟨#[46]⟩,.int .i64 6,.int .i64 60,.slice (some ⟨X+1,0,none⟩) 1 1]:=by
  rw[<-al];exact ox _ _ (by simp[hX]) rfl
 rw[hX];go_enter func36,ntmps36;go_wp2_with fail
 try rw[al]
 clear al;refine (tr 1 w1).mono ?_;rintro e w2 ⟨v1,_,_,rfl,JD,hb⟩;have aN:=hb.size;replace aU:=(hb.block X (by omega)).trans aU;replace eI:=eI.move (hb.block (X+1) (by omega));replace oZ:=oZ.move (hb.block (X+1+1) (by omega));have ak:=jq (aF.out.trans (hb.mono (by omega)));have ie:=jq JD.around;have l9:=jq hb;clear JD hb;go_wp2_with fail;refine (tr 2 w2).mono ?_;rintro e w3 ⟨v2,_,_,rfl,qW,hb⟩;have dP:=hb.size;replace aU:=(hb.block X (by omega)).trans aU;replace eI:=eI.move (hb.block (X+1) (by omega));replace oZ:=oZ.move (hb.block (X+1+1) (by omega));have av:=jq (ak.out.trans (hb.mono (by omega)));have kr:=jq qW.around;have By:=jq hb;clear qW hb;go_wp2_with fail;refine (tr 1 w3).mono ?_;rintro e w4 ⟨v3,_,_,rfl,RZ,hb⟩;have ga:=hb.size;replace aU:=(hb.block X (by omega)).trans aU;replace eI:=eI.move (hb.block (X+1) (by omega));replace oZ:=oZ.move (hb.block (X+1+1) (by omega));have bD:=jq (av.out.trans (hb.mono (by omega)));have ml:=jq RZ.around;have CU:=jq hb;clear RZ hb;obtain⟨w5,aX⟩:∃ w5,w4.alloc (.cells #[.int .i64 0,.int .i64 0,.int .i64 10,.string ⟨#[120]⟩,.slice (some ⟨v1,0,none⟩) 2 2,.int .i64 0,.int .i64 10,.int .i64 30,.string ⟨#[120]⟩,.slice (some ⟨v2,0,none⟩) 2 2,.int .i64 1,.int .i64 5,.int .i64 20,.string ⟨#[120]⟩,.slice (some ⟨v3,0,none⟩) 2 2] 58)=w5:=⟨_,rfl⟩;obtain⟨w6,cr⟩:∃ w6,w5.alloc (.cells #[.string ⟨#[97,46,110,115]⟩,.int .i64 1,.int .i64 0,.string ⟨#[98,46,110,115]⟩,.int .i64 2,.int .i64 0] 64)=w6:=⟨_,rfl⟩;obtain⟨cb,dX⟩:∃ cb,w4.heap.size=cb:=⟨_,rfl⟩;have IV:w5.heap.size=cb+1:=by rw[<-aX,<-dX]; simp
 have gP:w6.heap.size=cb+2:=by rw[<-cr,World.size_alloc,IV]
 have Ld:cN w6 cb 0 [.int .i64 0,.int .i64 0,.int .i64 10,.string ⟨#[120]⟩,.slice (some ⟨v1,0,none⟩) 2 2,.int .i64 0,.int .i64 10,.int .i64 30,.string ⟨#[120]⟩,.slice (some ⟨v2,0,none⟩) 2 2,.int .i64 1,.int .i64 5,.int .i64 20,.string ⟨#[120]⟩,.slice (some ⟨v3,0,none⟩) 2 2]:=by
  rw[<-cr];exact (ox _ _ dX aX.symm).move (Below.heap_alloc _ _ _ (by omega))
 have lW:w6.heap[cb]?=some (.cells #[.int .i64 0,.int .i64 0,.int .i64 10,.string ⟨#[120]⟩,.slice (some ⟨v1,0,none⟩) 2 2,.int .i64 0,.int .i64 10,.int .i64 30,.string ⟨#[120]⟩,.slice (some ⟨v2,0,none⟩) 2 2,.int .i64 1,.int .i64 5,.int .i64 20,.string ⟨#[120]⟩,.slice (some ⟨v3,0,none⟩) 2 2] 58):=by
  rw[<-cr];refine (Below.heap_alloc _ _ _ (by omega)).trans ?_;rw[<-aX,<-dX];exact heap_alloc_new _ _
 have Ka:cN w6 (cb+1) 0 [.string ⟨#[97,46,110,115]⟩,.int .i64 1,.int .i64 0,.string ⟨#[98,46,110,115]⟩,.int .i64 2,.int .i64 0]:=ox _ _ IV cr.symm;have yF:Below w4.heap.size w4 w6:=by rw[<-cr,<-aX]; exact ((vQ _ _).alloc (bQ _) _).alloc (by simp) _
 replace aU:=(yF.block X (by omega)).trans aU;replace eI:=eI.move (yF.block (X+1) (by omega));replace oZ:=oZ.move (yF.block (X+1+1) (by omega));have cY:=jq (bD.out.trans (yF.mono (by omega)));have aXX:=jq yF;clear yF;have a0:w6.cell? ⟨X+1+1,0,none⟩=some (.string ⟨#[46]⟩):=oZ 0 _ rfl;have a1:w6.cell? ⟨X+1+1,1,none⟩=some (.int .i64 6):=oZ 1 _ rfl;have a2:w6.cell? ⟨X+1+1,2,none⟩=some (.int .i64 60):=oZ 2 _ rfl;have a3:w6.cell? ⟨X+1+1,3,none⟩=some (.slice (some ⟨X+1,0,none⟩) 1 1):=oZ 3 _ rfl;obtain⟨w7,gb⟩:∃ w7,w6.alloc (.cells #[.int .i64 1] 3)=w7:=⟨_,rfl⟩;have lM:w7.heap.size=cb+3:=by rw[<-gb,World.size_alloc,gP]
 have uN:Below w6.heap.size w6 w7:=by rw[<-gb]; exact (vQ _ _).alloc (bQ _) _
 have hi7:cN w7 (cb+2) 0 [.int .i64 1]:=ox _ _ gP gb.symm;replace Ld:=Ld.move (uN.block cb (by omega));replace Ka:=Ka.move (uN.block (cb+1) (by omega));replace aU:=(uN.block X (by omega)).trans aU;replace eI:=eI.move (uN.block (X+1) (by omega));have dN:=jq (cY.out.trans (uN.mono (by omega)));have tY:=jq (aXX.out.trans (uN.mono (by omega)));have aEK:=jq uN;clear uN;have y0:w7.cell? ⟨X,0,none⟩=some (.slice none 0 0):=by simp[World.cell?,aU]
 have z0:w7.frozen? ⟨X,0,none⟩=false:=by simp[World.frozen?,aU]
 have y1:w7.cell? ⟨X,1,none⟩=some (.slice none 0 0):=by simp[World.cell?,aU]
 have z1:w7.frozen? ⟨X,1,none⟩=false:=by simp[World.frozen?,aU]
 have y2:w7.cell? ⟨X,2,none⟩=some (.string ⟨#[]⟩):=by simp[World.cell?,aU]
 have z2:w7.frozen? ⟨X,2,none⟩=false:=by simp[World.frozen?,aU]
 have y3:w7.cell? ⟨X,3,none⟩=some (.int .i64 0):=by simp[World.cell?,aU]
 have z3:w7.frozen? ⟨X,3,none⟩=false:=by simp[World.frozen?,aU]
 have y4:w7.cell? ⟨X,4,none⟩=some (.int .i64 0):=by simp[World.cell?,aU]
 have z4:w7.frozen? ⟨X,4,none⟩=false:=by simp[World.frozen?,aU]
 have y5:w7.cell? ⟨X,5,none⟩=some (.slice none 0 0):=by simp[World.cell?,aU]
 have z5:w7.frozen? ⟨X,5,none⟩=false:=by simp[World.frozen?,aU]
 have y6:w7.cell? ⟨X,6,none⟩=some (.slice none 0 0):=by simp[World.cell?,aU]
 have z6:w7.frozen? ⟨X,6,none⟩=false:=by simp[World.frozen?,aU]
 have y7:w7.cell? ⟨X,7,none⟩=some (.int .i64 0):=by simp[World.cell?,aU]
 have z7:w7.frozen? ⟨X,7,none⟩=false:=by simp[World.frozen?,aU]
 have y8:w7.cell? ⟨X,8,none⟩=some (.int .i64 0):=by simp[World.cell?,aU]
 have z8:w7.frozen? ⟨X,8,none⟩=false:=by simp[World.frozen?,aU]
 go_wp2_with fail;obtain⟨W,hW⟩:∃ W,(((((((((w7.setCell ⟨X,0,none⟩ (.slice (some ⟨cb+1,0,none⟩) 2 2)).setCell ⟨X,1,none⟩ (.slice (some ⟨cb,0,none⟩) 3 3)).setCell ⟨X,2,none⟩ (.string ⟨#[46]⟩)).setCell ⟨X,3,none⟩ (.int .i64 6)).setCell ⟨X,4,none⟩ (.int .i64 60)).setCell ⟨X,5,none⟩ (.slice (some ⟨X+1,0,none⟩) 1 1)).setCell ⟨X,6,none⟩ (.slice (some ⟨cb+2,0,none⟩) 1 1)).setCell ⟨X,7,none⟩ (.int .i64 0)).setCell ⟨X,8,none⟩ (.int .i64 40))=W:=⟨_,rfl⟩;have ph:W.heap.size=cb+3:=by rw[<-hW,<-lM]; simp
 have iv:∀ k,k≠X->W.heap[k]?=w7.heap[k]?:=λk hk=>by rw[<-hW]; exact ((wQ _ _ _ k hk).trans ((wQ _ _ _ k hk).trans ((wQ _ _ _ k hk).trans ((wQ _ _ _ k hk).trans ((wQ _ _ _ k hk).trans ((wQ _ _ _ k hk).trans ((wQ _ _ _ k hk).trans ((wQ _ _ _ k hk).trans (wQ _ _ _ k hk)))))))))
 have iS:W.os=w7.os/\W.tape=w7.tape/\W.output=w7.output:=by rw[<-hW]; simp[World.setCell]
 have ay:Hid (Below X w W):=jq (by rw[<-hW]; exact (((((((((dN.out.setCell (p:=⟨X,0,none⟩) (bQ _) _).setCell (p:=⟨X,1,none⟩) (bQ _) _).setCell (p:=⟨X,2,none⟩) (bQ _) _).setCell (p:=⟨X,3,none⟩) (bQ _) _).setCell (p:=⟨X,4,none⟩) (bQ _) _).setCell (p:=⟨X,5,none⟩) (bQ _) _).setCell (p:=⟨X,6,none⟩) (bQ _) _).setCell (p:=⟨X,7,none⟩) (bQ _) _).setCell (p:=⟨X,8,none⟩) (bQ _) _));have e0:W.cell? ⟨X,0,none⟩=some (.slice (some ⟨cb+1,0,none⟩) 2 2):=by rw[<-hW]; simp[go_sem,y0]
 have e1:W.cell? ⟨X,1,none⟩=some (.slice (some ⟨cb,0,none⟩) 3 3):=by rw[<-hW]; simp[go_sem,y1]
 have e2:W.cell? ⟨X,2,none⟩=some (.string ⟨#[46]⟩):=by rw[<-hW]; simp[go_sem,y2]
 have e3:W.cell? ⟨X,3,none⟩=some (.int .i64 6):=by rw[<-hW]; simp[go_sem,y3]
 have e4:W.cell? ⟨X,4,none⟩=some (.int .i64 60):=by rw[<-hW]; simp[go_sem,y4]
 have e5:W.cell? ⟨X,5,none⟩=some (.slice (some ⟨X+1,0,none⟩) 1 1):=by rw[<-hW]; simp[go_sem,y5]
 have e6:W.cell? ⟨X,6,none⟩=some (.slice (some ⟨cb+2,0,none⟩) 1 1):=by rw[<-hW]; simp[go_sem,y6]
 have e7:W.cell? ⟨X,7,none⟩=some (.int .i64 0):=by rw[<-hW]; simp[go_sem,y7]
 have e8:W.cell? ⟨X,8,none⟩=some (.int .i64 40):=by rw[<-hW]; simp[go_sem,y8]
 rw[hW];refine bodyPost_ret (v:=.agg #[.slice (some ⟨cb+1,0,none⟩) 2 2,.slice (some ⟨cb,0,none⟩) 3 3,.string ⟨#[46]⟩,.int .i64 6,.int .i64 60,.slice (some ⟨X+1,0,none⟩) 1 1,.slice (some ⟨cb+2,0,none⟩) 1 1,.int .i64 0,.int .i64 40]) (by simp[results,results36,go_sem,e0,e1,e2,e3,e4,e5,e6,e7,e8]) rfl ⟨_,cb+1,cb,X+1,cb+2,v1,v2,v3,rfl,⟨rfl,⟨by omega,by omega,Ka.move (iv _ (by omega))⟩,⟨by omega,by omega,Ld.move (iv _ (by omega))⟩,(iv cb (by omega)).trans ((aEK.out.block cb (by omega)).trans lW),⟨by omega,by omega,eI.move (iv _ (by omega))⟩,⟨by omega,by omega,hi7.move (iv _ (by omega))⟩,by omega,?_,?_,?_⟩,ay.out⟩
 all_goals intro M hM
 ·have h1:=ie.out.later (M:=λk=>M k\/k=X) aV bR (By.out.trans ((CU.out.mono (by omega)).trans (tY.out.mono (by omega)))) (λk e=>by
   rcases e with e | e
   ·have:=hM k e; omega
   ·omega)
  exact (Leaves'.slr (M:=λk=>M k\/k=X) (M':=λk=>M k\/k=X) aV ji bR ⟨iS.1,iS.2.1,iS.2.2,by omega,λi hi hm=>⟨hm,iv i (λe=>hm (.inr e))⟩⟩ h1).sans ji (λk e=>.inl e)
 ·have h1:=kr.out.later (M:=λk=>M k\/k=X) aV bR (CU.out.trans (tY.out.mono (by omega))) (λk e=>by
   rcases e with e | e
   ·have:=hM k e; omega
   ·omega)
  exact (Leaves'.slr (M:=λk=>M k\/k=X) (M':=λk=>M k\/k=X) aV ji bR ⟨iS.1,iS.2.1,iS.2.2,by omega,λi hi hm=>⟨hm,iv i (λe=>hm (.inr e))⟩⟩ h1).sans ji (λk e=>.inl e)
 ·have h1:=ml.out.later (M:=λk=>M k\/k=X) aV bR tY.out (λk e=>by
   rcases e with e | e
   ·have:=hM k e; omega
   ·omega)
  exact (Leaves'.slr (M:=λk=>M k\/k=X) (M':=λk=>M k\/k=X) aV ji bR ⟨iS.1,iS.2.1,iS.2.2,by omega,λi hi hm=>⟨hm,iv i (λe=>hm (.inr e))⟩⟩ h1).sans ji (λk e=>.inl e)
theorem ExAt.rhist{n:Nat}{w:World}{e:List Value}{hb cb db ib v1 v2 v3:Nat}(h:ExAt n w e hb cb db ib v1 v2 v3):bw w w.heap.size e Np.exH:=by
 have hF:∀ k,(λ_:Nat=>False) k->k<n\/k=cb:=λ_ e=>e.elim;exact⟨_,_,⟨#[46]⟩,_,_,h.val,rfl,by decide,DX (R:=gW) [.string ⟨#[97,46,110,115]⟩,.int .i64 1,.int .i64 0] [.string ⟨#[98,46,110,115]⟩,.int .i64 2,.int .i64 0] rfl h.hosts.hi h.hosts.cells ⟨⟨#[97,46,110,115]⟩,rfl,by decide,rfl⟩ ⟨⟨#[98,46,110,115]⟩,rfl,by decide,rfl⟩,G7 (R:=iF) [.int .i64 0,.int .i64 0,.int .i64 10,.string ⟨#[120]⟩,.slice (some ⟨v1,0,none⟩) 2 2] [.int .i64 0,.int .i64 10,.int .i64 30,.string ⟨#[120]⟩,.slice (some ⟨v2,0,none⟩) 2 2] [.int .i64 1,.int .i64 5,.int .i64 20,.string ⟨#[120]⟩,.slice (some ⟨v3,0,none⟩) 2 2] rfl rfl h.copies.hi h.copies.cells ⟨⟨#[120]⟩,_,rfl,by decide,((h.z1 _ hF).all ji),rfl⟩ ⟨⟨#[120]⟩,_,rfl,by decide,((h.z2 _ hF).all ji),rfl⟩ ⟨⟨#[120]⟩,_,rfl,by decide,((h.z3 _ hF).all ji),rfl⟩,pC (R:=cG) [.string ⟨#[]⟩,.int .i64 1,.int .i64 1] h.data.hi h.data.cells ⟨⟨#[]⟩,rfl,by decide,rfl⟩,pC (R:=ip) [.int .i64 1] h.hints.hi h.hints.cells rfl⟩
theorem ExAt.bad{n:Nat}{w W W':World}{e:List Value}{hb cb db ib v1 v2 v3:Nat}(h:ExAt n w e hb cb db ib v1 v2 v3)(hW:Below w.heap.size w W)(ht:Turned cb W W')(ho:W'.heap[cb]?=some (.cells #[.int .i64 0,.int .i64 0,.int .i64 10,.string ⟨#[120]⟩,.slice (some ⟨v1,0,none⟩) 2 2,.int .i64 0,.int .i64 9,.int .i64 30,.string ⟨#[120]⟩,.slice (some ⟨v2,0,none⟩) 2 2,.int .i64 1,.int .i64 5,.int .i64 20,.string ⟨#[120]⟩,.slice (some ⟨v3,0,none⟩) 2 2] 58)):bw W' W'.heap.size e Np.yB:=by
 have hz:w.heap.size<=W'.heap.size:=by rw[ht.size]; exact hW.size
 have hk:∀ k,k<w.heap.size->k≠cb->W'.heap[k]?=w.heap[k]?:=λk h1 h2=>(ht.block k h2).trans (hW.block k h1);have hc:cN W' cb 0 [.int .i64 0,.int .i64 0,.int .i64 10,.string ⟨#[120]⟩,.slice (some ⟨v1,0,none⟩) 2 2,.int .i64 0,.int .i64 9,.int .i64 30,.string ⟨#[120]⟩,.slice (some ⟨v2,0,none⟩) 2 2,.int .i64 1,.int .i64 5,.int .i64 20,.string ⟨#[120]⟩,.slice (some ⟨v3,0,none⟩) 2 2]:=λj v hj=>by
  unfold World.cell?;rw[ho,Nat.zero_add];simpa using hj
 have hz':∀ {k:Int} {v:Nat},(∀ M:Nat->Prop,(∀ k,M k->k<n\/k=cb)->SlR bK 5 (bp w M) w.heap.size (.slice (some ⟨v,0,none⟩) 2 2) (Np.dC k).sets)->SlR bK 5 W' W'.heap.size (.slice (some ⟨v,0,none⟩) 2 2) (Np.dC k).sets:=λh1=>
  M5 (p:=λk=>k<n\/k=cb) (λM hM=>Mr h1 aV bR hW (λk e=>.inl (hM k e))) aV ji bR (.inr rfl) ht
 exact⟨_,_,⟨#[46]⟩,_,_,h.val,rfl,by decide,DX (R:=gW) [.string ⟨#[97,46,110,115]⟩,.int .i64 1,.int .i64 0] [.string ⟨#[98,46,110,115]⟩,.int .i64 2,.int .i64 0] rfl (lQ h.hosts.hi hz) (h.hosts.cells.move (hk hb h.hosts.hi h.ne.1)) ⟨⟨#[97,46,110,115]⟩,rfl,by decide,rfl⟩ ⟨⟨#[98,46,110,115]⟩,rfl,by decide,rfl⟩,G7 (R:=iF) [.int .i64 0,.int .i64 0,.int .i64 10,.string ⟨#[120]⟩,.slice (some ⟨v1,0,none⟩) 2 2] [.int .i64 0,.int .i64 9,.int .i64 30,.string ⟨#[120]⟩,.slice (some ⟨v2,0,none⟩) 2 2] [.int .i64 1,.int .i64 5,.int .i64 20,.string ⟨#[120]⟩,.slice (some ⟨v3,0,none⟩) 2 2] rfl rfl (lQ h.copies.hi hz) hc ⟨⟨#[120]⟩,_,rfl,by decide,(hz' h.z1),rfl⟩ ⟨⟨#[120]⟩,_,rfl,by decide,(hz' h.z2),rfl⟩ ⟨⟨#[120]⟩,_,rfl,by decide,(hz' h.z3),rfl⟩,pC (R:=cG) [.string ⟨#[]⟩,.int .i64 1,.int .i64 1] (lQ h.data.hi hz) (h.data.cells.move (hk db h.data.hi h.ne.2.1)) ⟨⟨#[]⟩,rfl,by decide,rfl⟩,pC (R:=ip) [.int .i64 1] (lQ h.hints.hi hz) (h.hints.cells.move (hk ib h.hints.hi h.ne.2.2)) rfl⟩
def Np.pJ(l:List Np.Signed):Prop:=l.length<=100/\∀ x∈l,x.set.data.length<=20/\x.sigs.length<=20
theorem Y4(a:ByteArray)(v:Value)(l:List Np.Signed)(w:World)(hd:SlR bK 5 w w.heap.size v l) :
 Calls prog 41 #[.agg #[.string a,v]] w λe w'=>e = .returned (.bool (Np.yes (Np.pJ l)))/\Below w.heap.size w w':=by
 obtain⟨r,hr⟩:∃ r,Np.yes (Np.pJ l)=r:=⟨_,rfl⟩;rw[hr];have HR:=jq hr;have HD:=jq hd;obtain⟨A,c,rfl,bC,bH⟩:=ag hd;clear hr hd;obtain⟨X,hX⟩:∃ X,w.heap.size=X:=⟨_,rfl⟩;obtain⟨n,hn⟩:∃ n,l.length=n:=⟨_,rfl⟩;rw[hn] at HD bC bH |-;have er:=jq hn;clear hn;obtain⟨W1,ae⟩:∃ W1,w.alloc (.cells #[.string a,.slice A n c] 56)=W1:=⟨_,rfl⟩;have aw:Below w.heap.size w W1:=by rw[<-ae]; exact (vQ _ _).alloc (bQ _) _
 have eG:W1.heap.size=w.heap.size+1:=by rw[<-ae]; simp
 have k1:W1.cell? ⟨X,1,none⟩=some (.slice A n c):=by rw[<-ae,<-hX]; simp[go_sem]
 rw[hX] at aw eG HD |-;have ay:=jq aw;clear aw;go_enter func41,ntmps41;go_wp2_with fail;clear ae hX;go_loopw [3] (λi wr=>∃ (k:Nat),k<=n/\k<=101/\i = .int .i64 k/\Hid (Below (X+1) W1 wr)/\Hid (∀ x∈l.take k,x.set.data.length<=20/\x.sigs.length<=20)) (λi _=>n - (intOf i).toNat)
 case atStart=>exact⟨0,jQ _,jQ _,rfl,jq (vQ _ _),jq (by simp)⟩
 case round=>
  obtain⟨k,hk,a8J,rfl,aO,HQ⟩:=hrel;have HB:=jq (ay.out.trans (aO.out.mono (by omega)));have q1:=(cl aO.out (by omega)).trans k1;have an:=aO.out.size;by_cases ab:k<n
  ·by_cases a6J:k<=100
   ·have a3Z:decide ((k:Int)<=100)=true:=uQ (by omega);obtain⟨x,ac⟩:∃ x,l[k]?=some x:=⟨_,aQ (by rw[er.out]; exact ab)⟩;obtain⟨b,o,c',sn,dv,sv,hA,bg,_,az,bL,bd,aL,f0,f1,f2,f3,f4⟩:=eT (HD.out.keep aV HB.out) ac
    cases hA
    obtain⟨Ad,cd,rfl,_,_⟩:=ag bd;obtain⟨As,cs,rfl,_,_⟩:=ag aL;obtain⟨nd,nW⟩:∃ n,x.set.data.length=n:=⟨_,rfl⟩;obtain⟨ns,F3⟩:∃ n,x.sigs.length=n:=⟨_,rfl⟩;rw[nW] at f3;rw[F3] at f4;have HF:Hid (¬ (nd<=20/\ns<=20)->r=false):=jq (λh=>by
     rw[<-HR.out,<-nW,<-F3] at *;exact Np.aP λq=>h (q.2 x (gQ ac)))
    have wv:Hid (nd<=20/\ns<=20->∀ x∈l.take (k+1),x.set.data.length<=20/\x.sigs.length<=20):=jq (λh y hy=>by
     obtain⟨hl,he⟩:=cQ.1 ac;rw[fQ hl,he] at hy;rcases List.mem_append.1 hy with hy | hy
     ·exact HQ.out y hy
     ·rw[List.mem_singleton] at hy; subst hy; rw[nW,F3]; exact h)
    clear ac az bd aL nW F3;by_cases g1:20<nd
    ·have d1:decide (20<(nd:Int))=true:=uQ (by omega);have HX:=jq (HF.out (by omega));clear g1;go_wp2_with fail;go_ret;exact⟨aj HX.out.symm,HB.out⟩
    ·have d1:decide (20<(nd:Int))=false:=tQ (by omega);by_cases g2:20<ns
     ·have d2:decide (20<(ns:Int))=true:=uQ (by omega);have HX:=jq (HF.out (by omega));clear g1 g2;go_wp2_with fail;go_ret;exact⟨aj HX.out.symm,HB.out⟩
     ·have d2:decide (20<(ns:Int))=false:=tQ (by omega);have HX:=jq (wv.out (by omega));clear g1 g2;go_wp2_with fail;go_roundw
      case rel=>exact⟨k+1,by omega,by omega,by go_num,aO,HX⟩
      case measure=>simp[intOf] <;> omega
   ·have a3Z:decide ((k:Int)<=100)=false:=tQ (by omega);have n9:decide ((n:Int)<=100)=false:=tQ (by omega);have HX:Hid (r=false):=jq (by rw[<-HR.out]; exact Np.aP λq=>by have:=q.1; rw[er.out] at this; omega);go_wp2_with fail;go_ret;exact⟨aj HX.out.symm,HB.out⟩
  ·have HQL:Hid (∀ x∈l,x.set.data.length<=20/\x.sigs.length<=20):=jq (by have:=HQ.out; rwa [kQ (by rw[er.out]; omega)] at this);by_cases aAQ:n<=100
   ·have n9:decide ((n:Int)<=100)=true:=uQ (by omega);have HX:Hid (r=true):=jq (by rw[<-HR.out]; exact Np.bO ⟨by rw[er.out]; exact aAQ,HQL.out⟩);go_wp2_with fail;go_ret;exact⟨aj HX.out.symm,HB.out⟩
   ·have n9:decide ((n:Int)<=100)=false:=tQ (by omega);have HX:Hid (r=false):=jq (by rw[<-HR.out]; exact Np.aP λq=>by have:=q.1; rw[er.out] at this; omega);go_wp2_with fail;go_ret;exact⟨aj HX.out.symm,HB.out⟩
def Np.nD(h:Np.Hist):Prop:=(h.copies.length<=20/\h.hosts.length<=70/\h.hints.length<=20/\h.anchor.data.length<=20)/\(∀ c∈h.copies,Np.pJ c.zone.sets/\c.zone.apex.length<=100)/\∀ x∈h.hosts,x.name.length<=100
theorem MU(e:List Value)(h:Np.Hist)(w:World)(hh:bw w w.heap.size e h) :
 Calls prog 11 #[.agg e.toArray] w λe w'=>e = .returned (.bool (Np.yes (Np.nD h)))/\Below w.heap.size w w':=by
 obtain⟨hv,cv,s,dv,cj,rfl,_,_,h3,h4,h5',h6⟩:=hh;obtain⟨hosts,copies,⟨name,ty,life,data⟩,hints,drift,stop⟩:=h;dsimp only at h3 h4 h5' h6 |-;have HD:=jq h4;have HH:=jq h3;obtain⟨A1,c1,rfl,_,_⟩:=ag h3;obtain⟨A2,c2,rfl,_,_⟩:=ag h4;obtain⟨A3,c3,rfl,_,_⟩:=ag h5';obtain⟨A4,c4,rfl,_,_⟩:=ag h6;clear h3 h4 h5' h6;obtain⟨n1,aJ⟩:∃ n,hosts.length=n:=⟨_,rfl⟩;obtain⟨n2,aK⟩:∃ n,copies.length=n:=⟨_,rfl⟩;obtain⟨n3,bk⟩:∃ n,data.length=n:=⟨_,rfl⟩;obtain⟨n4,bl⟩:∃ n,hints.length=n:=⟨_,rfl⟩;rw[aJ,aK,bk,bl];rw[aK] at HD;rw[aJ] at HH;have ix:=jq aJ;have uV:=jq bk;have sD:=jq bl;have er:=jq aK;clear aJ aK bk bl;obtain⟨r,hr⟩:∃ r,Np.yes (Np.nD ⟨hosts,copies,⟨name,ty,life,data⟩,hints,drift,stop⟩)=r:=⟨_,rfl⟩;rw[hr];have HR:=jq hr;have sZ:Hid (Np.nD ⟨hosts,copies,⟨name,ty,life,data⟩,hints,drift,stop⟩↔(n2<=20/\n1<=70/\n4<=20/\n3<=20)/\(∀ c∈copies,Np.pJ c.zone.sets/\c.zone.apex.length<=100)/\∀ h∈hosts,h.name.length<=100):=jq (by unfold Np.nD; dsimp only; rw[er.out,ix.out,uV.out,sD.out]);clear hr;obtain⟨X,hX⟩:∃ X,w.heap.size=X:=⟨_,rfl⟩;have gF:=jq hX;obtain⟨W1,ae⟩:∃ W1,w.alloc (.cells #[.slice A1 n1 c1,.slice A2 n2 c2,.string s,.int .i64 ty,.int .i64 life,.slice A3 n3 c3,.slice A4 n4 c4,.int .i64 drift,.int .i64 stop] 29)=W1:=⟨_,rfl⟩;have aw:Below w.heap.size w W1:=by rw[<-ae]; exact (vQ _ _).alloc (bQ _) _
 have eG:W1.heap.size=w.heap.size+1:=by rw[<-ae]; simp
 have k0:W1.cell? ⟨X,0,none⟩=some (.slice A1 n1 c1):=by rw[<-ae,<-hX]; simp[go_sem]
 have k5:W1.cell? ⟨X,5,none⟩=some (.slice A3 n3 c3):=by rw[<-ae,<-hX]; simp[go_sem]
 have k6:W1.cell? ⟨X,6,none⟩=some (.slice A4 n4 c4):=by rw[<-ae,<-hX]; simp[go_sem]
 have k1:W1.cell? ⟨X,1,none⟩=some (.slice A2 n2 c2):=by rw[<-ae,<-hX]; simp[go_sem]
 rw[hX] at aw eG HD HH |-;have ay:=jq aw;clear aw;go_enter func11,ntmps11;go_wp2_with fail;clear ae hX;go_loopw [3] (λi wr=>∃ (k:Nat),k<=n2/\k<=21/\i = .int .i64 k/\Hid (Below (X+1) W1 wr)/\Hid (∀ c∈copies.take k,Np.pJ c.zone.sets/\c.zone.apex.length<=100)) (λi _=>n2 - (intOf i).toNat)
 case atStart=>exact⟨0,jQ _,jQ _,rfl,jq (vQ _ _),jq (by simp)⟩
 case round=>
  obtain⟨k,hk,bpZ,rfl,aO,HQ⟩:=hrel;have HB:=jq (ay.out.trans (aO.out.mono (by omega)));have an:=aO.out.size;have q0:=(cl aO.out (by omega)).trans k0;have q1:=(cl aO.out (by omega)).trans k1;have q5:=(cl aO.out (by omega)).trans k5;have q6:=(cl aO.out (by omega)).trans k6;by_cases kC:k<n2/\k<=20
  ·obtain⟨ab,cu⟩:=kC;have boJ:decide ((k:Int)<=20)=true:=uQ (by omega);obtain⟨x,ac⟩:∃ x,copies[k]?=some x:=⟨_,aQ (by rw[er.out]; exact ab)⟩;obtain⟨b,o,sn,vz,rfl,bg,az,bL,bX,f0,f1,f2,f3,f4⟩:=nC (HD.out.keep fk HB.out) ac;have aS:Hid (x.zone.apex.length=sn.size):=jq (by rw[<-az,bn]);have dU:Hid (SlR bK 5 wr wr.heap.size vz x.zone.sets):=jq (bX.more bR (by omega));obtain⟨rz,fY⟩:∃ rz,Np.yes (Np.pJ x.zone.sets)=rz:=⟨_,rfl⟩;have iJ:=jq fY;have HF:Hid (¬ (Np.pJ x.zone.sets/\x.zone.apex.length<=100)->r=false):=jq (λh=>by
    rw[<-HR.out];exact Np.aP λq=>h ((sZ.out.1 q).2.1 x (gQ ac)))
   have wv:Hid (Np.pJ x.zone.sets/\x.zone.apex.length<=100->∀ c∈copies.take (k+1),Np.pJ c.zone.sets/\c.zone.apex.length<=100):=jq (λh y hy=>by
    obtain⟨hl,he⟩:=cQ.1 ac;rw[fQ hl,he] at hy;rcases List.mem_append.1 hy with hy | hy
    ·exact HQ.out y hy
    ·rw[List.mem_singleton] at hy; subst hy; exact h)
   obtain⟨Az,cz,rfl,_,_⟩:=ag bX;obtain⟨nz,iq⟩:∃ nz,x.zone.sets.length=nz:=⟨_,rfl⟩;rw[iq] at f4 dU;clear ac az bX iq fY;go_wp2_with fail;refine (Y4 sn _ x.zone.sets _ dU.out).mono ?_;rintro e w3 ⟨rfl,ah⟩;have dP:=ah.size;have g3:=(cl ah (by omega)).trans f3;have g1:=(cl ah (by omega)).trans q1;have av:=jq (HB.out.trans (ah.mono (by omega)));have CC:=jq (aO.out.trans (ah.mono (by omega)));clear ah;rw[iJ.out]
   cases rz with
   | false=>
    have HX:=jq (HF.out (λh=>by have:=Np.bO h.1; rw[iJ.out] at this; cases this));go_wp2_with fail;go_ret;exact⟨aj HX.out.symm,av.out⟩
   | true=>
    by_cases hs:100<sn.size
    ·have d2:decide (100<(sn.size:Int))=true:=uQ (by omega);have HX:=jq (HF.out (λh=>by have:=h.2; rw[aS.out] at this; omega));clear hs;go_wp2_with fail;go_ret;exact⟨aj HX.out.symm,av.out⟩
    ·have d2:decide (100<(sn.size:Int))=false:=tQ (by omega);have HX:=jq (wv.out ⟨Np.eE.1 iJ.out,by rw[aS.out]; omega⟩);clear hs;go_wp2_with fail;go_roundw
     case rel=>exact⟨k+1,by omega,by omega,by go_num,jq CC.out,HX⟩
     case measure=>simp[intOf] <;> omega
  ·have td:(decide ((k:Int)<(n2:Int))=false)\/(decide ((k:Int)<(n2:Int))=true/\decide ((k:Int)<=20)=false):=by
    by_cases h1:k<n2
    ·exact .inr ⟨uQ (by omega),tQ (by omega)⟩
    ·exact .inl (tQ (by omega))
   have lR:Hid (n2<=20->∀ c∈copies,Np.pJ c.zone.sets/\c.zone.apex.length<=100):=jq (λh=>by
    have:=HQ.out
    rwa [kQ (by rw[er.out]; omega)] at this)
   obtain⟨wo,rfl⟩:∃ wo,wo=wr:=⟨_,rfl⟩;clear td;have Lp:k<n2->decide ((k:Int)<=20)=false:=λh=>tQ (by omega);by_cases ou:k<n2
   ·have eB:=Lp ou;clear kC Lp;go_wp2_with fail;go_loopw [4] (λi wi=>∃ (j:Nat),j<=n1/\j<=71/\i = .int .i64 j/\Hid (Below wo.heap.size wo wi)/\Hid (∀ x∈hosts.take j,x.name.length<=100)) (λi _=>n1 - (intOf i).toNat)
    case atStart=>exact⟨0,jQ _,jQ _,rfl,jq (vQ _ _),jq (by simp)⟩
    case round=>
     obtain⟨j,hj,aCK,rfl,cA,HP⟩:=hrel;have lp:=jq (HB.out.trans (cA.out.mono (by omega)));have ut:=cA.out.size;have u0:=(cl cA.out (by omega)).trans q0;have u1:=(cl cA.out (by omega)).trans q1;have u5:=(cl cA.out (by omega)).trans q5;have u6:=(cl cA.out (by omega)).trans q6;by_cases kC:j<n1/\j<=70
     ·obtain⟨ab,h70⟩:=kC;have aKX:decide ((j:Int)<=70)=true:=uQ (by omega);obtain⟨x,ac⟩:∃ x,hosts[j]?=some x:=⟨_,aQ (by rw[ix.out]; exact ab)⟩;obtain⟨b,o,sn,rfl,bg,az,bL,f0,f1,f2⟩:=tH (HH.out.keep fF lp.out) ac;have aS:Hid (x.name.length=sn.size):=jq (by rw[<-az,bn]);have HF:Hid (¬ x.name.length<=100->r=false):=jq (λh=>by
       rw[<-HR.out];exact Np.aP λq=>h ((sZ.out.1 q).2.2 x (gQ ac)))
      have vY:Hid (x.name.length<=100->∀ c∈hosts.take (j+1),c.name.length<=100):=jq (λh y hy=>by
       obtain⟨hl,he⟩:=cQ.1 ac;rw[fQ hl,he] at hy;rcases List.mem_append.1 hy with hy | hy
       ·exact HP.out y hy
       ·rw[List.mem_singleton] at hy; subst hy; exact h)
      clear ac az;by_cases hs:100<sn.size
      ·have d2:decide (100<(sn.size:Int))=true:=uQ (by omega);have HX:=jq (HF.out (λh=>by rw[aS.out] at h; omega));clear hs;go_wp2_with fail;go_ret;exact⟨aj HX.out.symm,lp.out⟩
      ·have d2:decide (100<(sn.size:Int))=false:=tQ (by omega);have HX:=jq (vY.out (by rw[aS.out]; omega));clear hs;go_wp2_with fail;go_roundw
       case rel=>exact⟨j+1,by omega,by omega,by go_num,cA,HX⟩
       case measure=>simp[intOf] <;> omega
     ·have vN:j<n1->decide ((j:Int)<=70)=false:=λh=>tQ (by omega);have IH:Hid (n1<=70->∀ x∈hosts,x.name.length<=100):=jq (λh=>by
       have:=HP.out
       rwa [kQ (by rw[ix.out]; omega)] at this)
      have vU:(20<n2\/70<n1\/20<n4\/20<n3)->r=false:=λh=>by rw[<-HR.out]; exact Np.aP λq=>by have:=(sZ.out.1 q).1; omega
      have Kr:=jq vU;have CK:Hid (n2<=20/\n1<=70/\n4<=20/\n3<=20->r=true):=jq (λh=>by rw[<-HR.out]; exact Np.bO (sZ.out.2 ⟨h,lR.out h.1,IH.out h.2.1⟩));clear kC vU;have ax:∃ c1 c2 c3 c4:Bool,decide ((n2:Int)<=20)=c1/\decide ((n1:Int)<=70)=c2/\decide ((n4:Int)<=20)=c3/\decide ((n3:Int)<=20)=c4/\Hid (r=(c1&&c2&&c3&&c4)):=by
       refine⟨_,_,_,_,rfl,rfl,rfl,rfl,jq ?_⟩;by_cases h:n2<=20/\n1<=70/\n4<=20/\n3<=20
       ·rw[CK.out h,uQ (by omega),uQ (by omega),uQ (by omega),uQ (by omega)]; rfl
       ·rw[Kr.out (by omega)]
        symm
        rw[Bool.eq_false_iff];intro hb;simp only[Bool.and_eq_true,Qa] at hb;omega
      obtain⟨c1',c2',c3',c4',e1,e2,e3,e4,ua⟩:=ax;by_cases zj:j<n1
      ·have kW:=vN zj;clear vN
       cases c1' <;> cases c2' <;> cases c3' <;> cases c4'
       all_goals
        go_wp2_with fail;go_ret;exact⟨aj ua.out.symm,lp.out⟩
      ·have kW:=zj;clear vN
       cases c1' <;> cases c2' <;> cases c3' <;> cases c4'
       all_goals
        go_wp2_with fail;go_ret;exact⟨aj ua.out.symm,lp.out⟩
   ·clear kC Lp;go_wp2_with fail;go_loopw [4] (λi wi=>∃ (j:Nat),j<=n1/\j<=71/\i = .int .i64 j/\Hid (Below wo.heap.size wo wi)/\Hid (∀ x∈hosts.take j,x.name.length<=100)) (λi _=>n1 - (intOf i).toNat)
    case atStart=>exact⟨0,jQ _,jQ _,rfl,jq (vQ _ _),jq (by simp)⟩
    case round=>
     obtain⟨j,hj,aCK,rfl,cA,HP⟩:=hrel;have lp:=jq (HB.out.trans (cA.out.mono (by omega)));have ut:=cA.out.size;have u0:=(cl cA.out (by omega)).trans q0;have u1:=(cl cA.out (by omega)).trans q1;have u5:=(cl cA.out (by omega)).trans q5;have u6:=(cl cA.out (by omega)).trans q6;by_cases kC:j<n1/\j<=70
     ·obtain⟨ab,h70⟩:=kC;have aKX:decide ((j:Int)<=70)=true:=uQ (by omega);obtain⟨x,ac⟩:∃ x,hosts[j]?=some x:=⟨_,aQ (by rw[ix.out]; exact ab)⟩;obtain⟨b,o,sn,rfl,bg,az,bL,f0,f1,f2⟩:=tH (HH.out.keep fF lp.out) ac;have aS:Hid (x.name.length=sn.size):=jq (by rw[<-az,bn]);have HF:Hid (¬ x.name.length<=100->r=false):=jq (λh=>by
       rw[<-HR.out];exact Np.aP λq=>h ((sZ.out.1 q).2.2 x (gQ ac)))
      have vY:Hid (x.name.length<=100->∀ c∈hosts.take (j+1),c.name.length<=100):=jq (λh y hy=>by
       obtain⟨hl,he⟩:=cQ.1 ac;rw[fQ hl,he] at hy;rcases List.mem_append.1 hy with hy | hy
       ·exact HP.out y hy
       ·rw[List.mem_singleton] at hy; subst hy; exact h)
      clear ac az;by_cases hs:100<sn.size
      ·have d2:decide (100<(sn.size:Int))=true:=uQ (by omega);have HX:=jq (HF.out (λh=>by rw[aS.out] at h; omega));clear hs;go_wp2_with fail;go_ret;exact⟨aj HX.out.symm,lp.out⟩
      ·have d2:decide (100<(sn.size:Int))=false:=tQ (by omega);have HX:=jq (vY.out (by rw[aS.out]; omega));clear hs;go_wp2_with fail;go_roundw
       case rel=>exact⟨j+1,by omega,by omega,by go_num,cA,HX⟩
       case measure=>simp[intOf] <;> omega
     ·have vN:j<n1->decide ((j:Int)<=70)=false:=λh=>tQ (by omega);have IH:Hid (n1<=70->∀ x∈hosts,x.name.length<=100):=jq (λh=>by
       have:=HP.out
       rwa [kQ (by rw[ix.out]; omega)] at this)
      have vU:(20<n2\/70<n1\/20<n4\/20<n3)->r=false:=λh=>by rw[<-HR.out]; exact Np.aP λq=>by have:=(sZ.out.1 q).1; omega
      have Kr:=jq vU;have CK:Hid (n2<=20/\n1<=70/\n4<=20/\n3<=20->r=true):=jq (λh=>by rw[<-HR.out]; exact Np.bO (sZ.out.2 ⟨h,lR.out h.1,IH.out h.2.1⟩));clear kC vU;have ax:∃ c1 c2 c3 c4:Bool,decide ((n2:Int)<=20)=c1/\decide ((n1:Int)<=70)=c2/\decide ((n4:Int)<=20)=c3/\decide ((n3:Int)<=20)=c4/\Hid (r=(c1&&c2&&c3&&c4)):=by
       refine⟨_,_,_,_,rfl,rfl,rfl,rfl,jq ?_⟩;by_cases h:n2<=20/\n1<=70/\n4<=20/\n3<=20
       ·rw[CK.out h,uQ (by omega),uQ (by omega),uQ (by omega),uQ (by omega)]; rfl
       ·rw[Kr.out (by omega)]
        symm
        rw[Bool.eq_false_iff];intro hb;simp only[Bool.and_eq_true,Qa] at hb;omega
      obtain⟨c1',c2',c3',c4',e1,e2,e3,e4,ua⟩:=ax;by_cases zj:j<n1
      ·have kW:=vN zj;clear vN
       cases c1' <;> cases c2' <;> cases c3' <;> cases c4'
       all_goals
        go_wp2_with fail;go_ret;exact⟨aj ua.out.symm,lp.out⟩
      ·have kW:=zj;clear vN
       cases c1' <;> cases c2' <;> cases c3' <;> cases c4'
       all_goals
        go_wp2_with fail;go_ret;exact⟨aj ua.out.symm,lp.out⟩
end
end Go.Proofs.YtbfbobfbgabjiaaGreatDoor
