/- Parts of the proof. No condition. -/
import Derived.Test.YtfnopgdcaanaiaaGreatDoorRows
import Derived.ProofKit
import Derived.OpenShut
import Derived.Deep.DeepHandedRow
import Derived.Lib.LaidTab
import Derived.Deep.Slices
import Derived.Test.YtfnopgdcaanaiaaGreatDoorW01
set_option linter.all false
set_option maxRecDepth 100000
set_option maxHeartbeats 8000000
namespace Go.Proofs.YtfnopgdcaanaiaaGreatDoor
open Go.Proofs.Tryz
section
open Go.RowKit
def iR(w:World)(B:Nat):Prop:=0<B/\∀ k:Nat,k<9->ek w 0 (k * 8) (ja (Np.bY k)).toList
theorem iR.keep{w w':World}{B:Nat}(h:iR w B)(hb:Below B w w'):iR w' B:=⟨h.1,λk hk=>(h.2 k hk).keep hb h.1⟩
theorem iR.more{w:World}{B B':Nat}(h:iR w B)(hB:B<=B'):iR w B':=⟨lQ h.1 hB,h.2⟩
def bK(_:World)(_:Nat)(e:List Value)(d:Np.Datum):Prop:=∃ s:ByteArray,s.data.toList=d.text/\s.size<=140737488355328/\e = [.string s,.int .i64 d.n,.int .i64 d.m]
theorem cM:dL bK:=λ_ _ _ _ _ h _=>h
theorem dt:dZ bK:=λ_ _ _ _ _ h _=>h
theorem TE{w w':World}(h:w'=w):Below w.heap.size w w':=by rw[h];exact vQ _ _
theorem JQ(k ln mn lm mm:Int)(ev si wi:Bool)(s:ByteArray)(hs:s.size<=140737488355328)(n m:Int)(w:World)(t:Bool)(ht:Np.jt ⟨k,ln,mn,lm,mm,ev,si,wi⟩ ⟨s.data.toList,n,m⟩=t) :
 Calls prog 230 #[.agg #[.int .i64 k,.int .i64 ln,.int .i64 mn,.int .i64 lm,.int .i64 mm,.bool ev,.bool si,.bool wi],.agg #[.string s,.int .i64 n,.int .i64 m]] w
  λe w'=>e = .returned (.bool t)/\Below w.heap.size w w':=by
 subst ht;exact auK k ln mn lm mm ev si wi s hs n m w
def Te(w1:World)(o:Obj)(r:Np.Rule)(ds:List Np.Datum)(i:Value)(wr:World):Prop:=
 ∃ j:Nat,j<=ds.length/\i = .int .i64 j/\Below (w1.alloc o).heap.size (w1.alloc o) wr/\Np.jg r none ds=Np.jg r (ds.take j).getLast? (ds.drop j)
theorem Jn(s:ByteArray)(hs:s.size<=140737488355328)(ty life:Int)(v:Value)(ds:List Np.Datum)(w:World)(hR:iR w w.heap.size)(hd:SlR bK 3 w w.heap.size v ds) :
 Calls prog 152 #[.agg #[.string s,.int .i64 ty,.int .i64 life,v]] w
  λe w'=>e = .returned (.bool (Np.cN ⟨s.data.toList,ty,life,ds⟩))/\Below w.heap.size w w':=by
 have HR:=jq hR;have HD:=jq hd;obtain⟨A,c,rfl,bq,bN,kl⟩:=hd;clear hR kl;have HF:Hid (∀ t:Bool,t=Np.cN ⟨s.data.toList,ty,life,ds⟩->(.bool t:Value) = .bool (Np.cN ⟨s.data.toList,ty,life,ds⟩)):=λt ht=>by rw[ht]
 go_enter func152,ntmps152;go_wp2_with fail;refine (nameValid_any _ hs _).mono ?_;rintro e w1 ⟨rfl,hb⟩;have cE:Below w.heap.size w w1:=((vQ _ w).alloc (bQ _) _).trans (hb.mono (by simp));have an:w.heap.size+1<=w1.heap.size:=by have:=hb.size;simpa using this
 have eh:w.heap.size<w1.heap.size:=by omega
 have c0:w1.cell? ⟨w.heap.size,0,none⟩=some (.string s):=by rw[hb.cell (by simp)];go_simp
 have c1:w1.cell? ⟨w.heap.size,1,none⟩=some (.int .i64 ty):=by rw[hb.cell (by simp)];go_simp
 have c2:w1.cell? ⟨w.heap.size,2,none⟩=some (.int .i64 life):=by rw[hb.cell (by simp)];go_simp
 have c3:w1.cell? ⟨w.heap.size,3,none⟩=some (.slice A ds.length c):=by rw[hb.cell (by simp)];go_simp
 have HB:=jq hb;clear hb;by_cases dC:1<=ty/\ty<=8
 ·obtain⟨k,rfl⟩:=Int.eq_ofNat_of_zero_le (by omega:0<=ty);have WL:k<9:=by omega
  have rU:=(HR.out.keep cE).2 k WL;have r0:w1.cell? ⟨0,k * 8,none⟩=some (.int .i64 (Np.bY k).text):=rU 0 _ rfl;have r1:w1.cell? ⟨0,k * 8+1,none⟩=some (.int .i64 (Np.bY k).leastN):=rU 1 _ rfl;have r2:w1.cell? ⟨0,k * 8+2,none⟩=some (.int .i64 (Np.bY k).mostN):=rU 2 _ rfl;have r3:w1.cell? ⟨0,k * 8+3,none⟩=some (.int .i64 (Np.bY k).leastM):=rU 3 _ rfl;have r4:w1.cell? ⟨0,k * 8+4,none⟩=some (.int .i64 (Np.bY k).mostM):=rU 4 _ rfl;have r5:w1.cell? ⟨0,k * 8+5,none⟩=some (.bool (Np.bY k).even):=rU 5 _ rfl;have r6:w1.cell? ⟨0,k * 8+6,none⟩=some (.bool (Np.bY k).single):=rU 6 _ rfl;have r7:w1.cell? ⟨0,k * 8+7,none⟩=some (.bool (Np.bY k).wild):=rU 7 _ rfl;clear rU;go_wp2_with (first
   | (go_at_call 228;refine (JW _ _ _ _).mono ?_;rintro e w' ⟨rfl,rfl⟩)
   | (go_at_call 229;refine (OM _ hs _).mono ?_;rintro e w' ⟨rfl,rfl⟩))
  all_goals first
   | (go_ret
      go_light;refine⟨ag ?_,by first | exact cE | exact cE.alloc (by omega) _⟩;simp_all [Np.cN] <;> (intros;omega))
   | skip
  all_goals
   have hv:Np.cN ⟨s.data.toList,k,life,ds⟩=Np.jg (Np.bY k) none ds:=by
    go_light;simp_all [Np.cN] <;> (intros;omega)
  rotate_left 3
  all_goals
   have HV:=jq hv;clear hv HF;go_loopw [52] (λi wr=>Te w1 (Obj.cells (ja (Np.bY k)) 283) (Np.bY k) ds i wr) (λi _=>ds.length - (intOf i).toNat)
   case atStart=>
    refine⟨0,jQ _,rfl,TE ?_,rfl⟩;go_light;simp_all [ja]
   case round=>
    obtain⟨j,hj,rfl,aD,hg⟩:=hrel;have HG:=jq hg;clear hg;by_cases aa:j<ds.length
    ·have mF:=aD.size;simp only[World.size_alloc] at mF;have lJ:Below w.heap.size w wr:=(cE.alloc (by omega) _).trans (aD.mono (by simp;omega));have XP:w.heap.size<wr.heap.size:=by omega
     have ah:w1.heap.size<wr.heap.size:=by omega
     have d3:wr.cell? ⟨w.heap.size,3,none⟩=some (.slice A ds.length c):=by rw[aD.cell (by simp;omega)];rw[World.cell?_alloc_lt _ _ _ (by simpa using eh)];exact c3
     have q0:wr.cell? ⟨w1.heap.size,0,none⟩=some (.int .i64 (Np.bY k).text):=by rw[aD.cell (by simp)];exact World.cell?_alloc_new w1 _ _ _
     have q1:wr.cell? ⟨w1.heap.size,1,none⟩=some (.int .i64 (Np.bY k).leastN):=by rw[aD.cell (by simp)];exact World.cell?_alloc_new w1 _ _ _
     have q2:wr.cell? ⟨w1.heap.size,2,none⟩=some (.int .i64 (Np.bY k).mostN):=by rw[aD.cell (by simp)];exact World.cell?_alloc_new w1 _ _ _
     have q3:wr.cell? ⟨w1.heap.size,3,none⟩=some (.int .i64 (Np.bY k).leastM):=by rw[aD.cell (by simp)];exact World.cell?_alloc_new w1 _ _ _
     have q4:wr.cell? ⟨w1.heap.size,4,none⟩=some (.int .i64 (Np.bY k).mostM):=by rw[aD.cell (by simp)];exact World.cell?_alloc_new w1 _ _ _
     have q5:wr.cell? ⟨w1.heap.size,5,none⟩=some (.bool (Np.bY k).even):=by rw[aD.cell (by simp)];exact World.cell?_alloc_new w1 _ _ _
     have q6:wr.cell? ⟨w1.heap.size,6,none⟩=some (.bool (Np.bY k).single):=by rw[aD.cell (by simp)];exact World.cell?_alloc_new w1 _ _ _
     have q7:wr.cell? ⟨w1.heap.size,7,none⟩=some (.bool (Np.bY k).wild):=by rw[aD.cell (by simp)];exact World.cell?_alloc_new w1 _ _ _
     obtain⟨A',c',hA',_,_,bX⟩:=HD.out.keep cM lJ
     cases hA'
     obtain⟨b,o,e,rfl,bR,_,hce,sd,tE,tF,rfl⟩:=bX j _ (aQ aa);have e0:wr.cell? ⟨b,o+j * 3,none⟩=some (.string sd):=hce 0 _ rfl;have e1:wr.cell? ⟨b,o+j * 3+1,none⟩=some (.int .i64 ds[j].n):=hce 1 _ rfl;have e2:wr.cell? ⟨b,o+j * 3+2,none⟩=some (.int .i64 ds[j].m):=hce 2 _ rfl;have dJ:b<wr.heap.size:=by omega
     have aZ:=jq aD;have az:=jq lJ;have lw:=jq bX;have xr:=jq tE;clear hce aD lJ bX tE c0 c1 c2 c3 r0 r1 r2 r3 r4 r5 r6 r7;go_wp2_with fail;have p0:=World.cell?_alloc_new wr #[.string sd,.int .i64 ds[j].n,.int .i64 ds[j].m] 128 0;have p1:=World.cell?_alloc_new wr #[.string sd,.int .i64 ds[j].n,.int .i64 ds[j].m] 128 1;have p2:=World.cell?_alloc_new wr #[.string sd,.int .i64 ds[j].n,.int .i64 ds[j].m] 128 2;have keep:∀ b o,b<wr.heap.size->(wr.alloc (.cells #[.string sd,.int .i64 ds[j].n,.int .i64 ds[j].m] 128)).cell? ⟨b,o,none⟩=wr.cell? ⟨b,o,none⟩:=λb o h=>World.cell?_alloc_lt _ _ _ h;have li:(wr.alloc (.cells #[.string sd,.int .i64 ds[j].n,.int .i64 ds[j].m] 128)).heap.size=wr.heap.size+1:=World.size_alloc _ _;have fE:Below wr.heap.size wr (wr.alloc (.cells #[.string sd,.int .i64 ds[j].n,.int .i64 ds[j].m] 128)):=(vQ _ _).alloc (bQ _) _;generalize wr.alloc (.cells #[.string sd,.int .i64 ds[j].n,.int .i64 ds[j].m] 128)=wx at p0 p1 p2 keep li fE |-;have dX:w.heap.size<wx.heap.size:=by omega
     have ej:w1.heap.size<wx.heap.size:=by omega
     have mG:wr.heap.size<wx.heap.size:=by omega
     have tK:b<wx.heap.size:=by omega
     have qD:∀ (g:bE wx) (p:Addr),p.block<wx.heap.size->g.w.cell? p=wx.cell? p:=λg p h=>g.cell p h;have gE:=jq fE;clear fE li;have AQ:(⟨sd.data.toList,ds[j].n,ds[j].m⟩:Np.Datum)=ds[j]:=by rw[xr.out]
     have rb:=jq AQ;clear AQ;by_cases rV:Np.jt (Np.bY k) ⟨sd.data.toList,ds[j].n,ds[j].m⟩=true
     ·have kK:=jq rV;clear rV;by_cases kp:j=0
      ·subst kp;refine aEK ?_
       repeat (go_big_quiet_step ((go_at_call 230;exact Calls.grow_of (JQ _ _ _ _ _ _ _ _ _ tF _ _ _ true kK.out))))
       refine wpQuiet_nil ?_;rintro _ ⟨g,rfl⟩;go_wp2_with fail;go_roundw
       case rel=>
        go_light;have h1:=Np.MJ (r:=Np.bY k) (aQ aa) (by rw[<-rb.out];exact kK.out);exact⟨1,aa,by go_num,aZ.out.trans ((gE.out.trans (g.below.aDQ)).mono (by simp;omega)),by rw[<-h1];exact HG.out⟩
       case measure=>simp[intOf] <;> omega
      ·obtain⟨i,rfl⟩:∃ i,j=i+1:=⟨j - 1,by omega⟩
       try (exfalso;omega)
       all_goals
        obtain⟨b',o',e',py,AK,_,jH,sq,jP,XD,rfl⟩:=lw.out i _ (aQ (by omega))
        cases py
        have f0:wr.cell? ⟨b,o+i * 3,none⟩=some (.string sq):=jH 0 _ rfl;have f1:wr.cell? ⟨b,o+i * 3+1,none⟩=some (.int .i64 (ds[i]'(by omega)).n):=jH 1 _ rfl;have f2:wr.cell? ⟨b,o+i * 3+2,none⟩=some (.int .i64 (ds[i]'(by omega)).m):=jH 2 _ rfl;have AP:(⟨sq.data.toList,(ds[i]'(by omega)).n,(ds[i]'(by omega)).m⟩:Np.Datum)=ds[i]'(by omega):=by rw[jP]
        have Fo:=jq AP;clear jH jP AP;refine aEK ?_
        repeat (go_big_quiet_step (first
         | (go_at_call 230;exact Calls.grow_of (JQ _ _ _ _ _ _ _ _ _ tF _ _ _ true kK.out))
         | (go_at_call 231;exact Calls.grow_of (Ug _ _ _ _ _ _ _))))
        refine wpQuiet_nil ?_;rintro _ ⟨g,rfl⟩;have h1:=Np.MK (r:=Np.bY k) (aQ (by omega:i<ds.length)) (aQ aa) (by rw[<-rb.out];exact kK.out);rw[<-rb.out,<-Fo.out] at h1;have H1:=jq h1;clear h1;go_wp2_with fail
        ·go_ret;refine⟨ag ?_,az.out.trans ((gE.out.trans (g.below.aDQ)).aDQ)⟩;rw[HV.out,HG.out,H1.out,Qc (by omega)]
        ·go_roundw
         case rel=>
          go_light;exact⟨i+1+1,aa,by go_num,aZ.out.trans ((gE.out.trans (g.below.aDQ)).mono (by simp;omega)),by rw[HG.out,H1.out,Qb (by omega)]⟩
         case measure=>simp[intOf] <;> omega
     ·have BH:Np.jt (Np.bY k) ⟨sd.data.toList,ds[j].n,ds[j].m⟩=false:=by simpa using rV
      have kK:=jq BH;clear rV BH;refine aEK ?_
      repeat (go_big_quiet_step ((go_at_call 230;exact Calls.grow_of (JQ _ _ _ _ _ _ _ _ _ tF _ _ _ false kK.out))))
      refine wpQuiet_nil ?_;rintro _ ⟨g,rfl⟩;go_wp2_with fail;go_ret;refine⟨ag ?_,az.out.trans ((gE.out.trans (g.below.aDQ)).aDQ)⟩;rw[HV.out,HG.out,Np.MI (aQ aa) (by rw[<-rb.out];exact kK.out)]
    ·go_wp2_with fail;go_ret;refine⟨ag ?_,(cE.alloc (by omega) _).trans (aD.mono (by simp;omega))⟩;rw[HV.out,HG.out,List.drop_eq_nil_of_le (by omega)];rfl
 ·have hv:Np.cN ⟨s.data.toList,ty,life,ds⟩=false:=by
   simp only[Np.cN]
   have:(decide (1<=ty)&&decide (ty<=8))=false:=by simp;omega
   rw[this];simp
  have HV:=jq hv;clear hv;have aNY:(decide (1<=ty)&&decide (ty<=8))=false:=by simp;omega
  go_wp2_with (first
   | (go_at_call 228;refine (JW _ _ _ _).mono ?_;rintro e w' ⟨rfl,rfl⟩))
  all_goals
   go_ret;exact⟨ag HV.out.symm,cE⟩
def dl(_:World)(_:Nat)(e:List Value)(g:Np.Sig):Prop:=∃ s:ByteArray,s.data.toList=g.zone/\s.size<=140737488355328/\e = [.string s,.int .i64 g.key,.int .i64 g.alg,.int .i64 g.frm,.int .i64 g.til,.int .u64 g.sum]
theorem dD:dL dl:=λ_ _ _ _ _ h _=>h
theorem eu:dZ dl:=λ_ _ _ _ _ h _=>h
def bP(W:World)(B:Nat)(e:List Value)(x:Np.Signed):Prop:=∃ (s:ByteArray) (v u:Value),s.data.toList=x.set.name/\s.size<=140737488355328/\SlR bK 3 W B v x.set.data/\SlR dl 6 W B u x.sigs/\e = [.string s,.int .i64 x.set.type,.int .i64 x.set.life,v,u]
theorem bH:dL bP:=λ_ _ _ _ _ ⟨s,v,u,h1,h2,h3,h4,h5⟩ hb=>⟨s,v,u,h1,h2,h3.keep cM hb,h4.keep dD hb,h5⟩
theorem dH:dZ bP:=λ_ _ _ _ _ ⟨s,v,u,h1,h2,h3,h4,h5⟩ hb=>⟨s,v,u,h1,h2,h3.more dt hb,h4.more eu hb,h5⟩
def Ta(W:World)(B:Nat)(e:List Value)(z:Np.Zone):Prop:=∃ (s:ByteArray) (v:Value),s.data.toList=z.apex/\s.size<=140737488355328/\SlR bP 5 W B v z.sets/\e = [.string s,v]
theorem SlR.later{α:Type}{R:aFJ α}{sz:Nat}{w w':World}{v:Value}{xs:List α}(hk:dL R)(hm:dZ R)(h:SlR R sz w w.heap.size v xs)(hb:Below w.heap.size w w'):SlR R sz w' w'.heap.size v xs:=(h.keep hk hb).more hm hb.size
theorem C1{w:World}{B:Nat}{v:Value}{xs:List Np.Datum}(h:SlR bK 3 w B v xs){k:Nat}{x:Np.Datum}(hx:xs[k]?=some x):∃ (b o c:Nat) (s:ByteArray),v = .slice (some ⟨b,o,none⟩) xs.length c/\b<B/\xs.length<=c/\s.data.toList=x.text/\s.size<=140737488355328/\
 w.cell? ⟨b,o+k * 3,none⟩=some (.string s)/\w.cell? ⟨b,o+k * 3+1,none⟩=some (.int .i64 x.n)/\w.cell? ⟨b,o+k * 3+2,none⟩=some (.int .i64 x.m):=by
 obtain⟨A,c,rfl,hc,_,he⟩:=h;obtain⟨b,o,e,rfl,hb,_,hce,s,h1,h2,rfl⟩:=he k x hx;exact⟨b,o,c,s,rfl,hb,hc,h1,h2,by have:=hce 0 _ rfl;simpa using this,hce 1 _ rfl,hce 2 _ rfl⟩
theorem fR{w:World}{B:Nat}{v:Value}{xs:List Np.Signed}(h:SlR bP 5 w B v xs){k:Nat}{x:Np.Signed}(hx:xs[k]?=some x):∃ (b o c:Nat) (s:ByteArray) (dv sv:Value),v = .slice (some ⟨b,o,none⟩) xs.length c/\b<B/\xs.length<=c/\s.data.toList=x.set.name/\s.size<=140737488355328/\SlR bK 3 w B dv x.set.data/\SlR dl 6 w B sv x.sigs/\
 w.cell? ⟨b,o+k * 5,none⟩=some (.string s)/\w.cell? ⟨b,o+k * 5+1,none⟩=some (.int .i64 x.set.type)/\w.cell? ⟨b,o+k * 5+2,none⟩=some (.int .i64 x.set.life)/\w.cell? ⟨b,o+k * 5+3,none⟩=some dv/\w.cell? ⟨b,o+k * 5+4,none⟩=some sv:=by
 obtain⟨A,c,rfl,hc,_,he⟩:=h;obtain⟨b,o,e,rfl,hb,_,hce,s,dv,sv,h1,h2,h3,h4,rfl⟩:=he k x hx;exact⟨b,o,c,s,dv,sv,rfl,hb,hc,h1,h2,h3,h4,by have:=hce 0 _ rfl;simpa using this,hce 1 _ rfl,hce 2 _ rfl,hce 3 _ rfl,hce 4 _ rfl⟩
theorem ak{α:Type}{R:aFJ α}{sz:Nat}{w:World}{B:Nat}{v:Value}{xs:List α}(h:SlR R sz w B v xs):∃ A c,v = .slice A xs.length c/\xs.length<=c/\xs.length<=140737488355328:=by
 obtain⟨A,c,h1,h2,h3,_⟩:=h;exact⟨A,c,h1,h2,h3⟩
end
section
open Go.RowKit Go.Shelf
section
variable {α:Type}
def mf(p:α->Bool):List α->Int
 | []=>-1
 | x::xs=>if p x then 0 else if mf p xs = -1 then -1 else mf p xs+1
theorem Mx(p:α->Bool)(xs:List α)(h:∀ x∈xs,p x=false):mf p xs = -1:=by
 induction xs with
 | nil=>rfl
 | cons x r ih=>rw[mf,Qc (by simp[h x (by simp)]),Qb (ih (λy hy=>h y (by simp[hy])))]
theorem Mv(p:α->Bool)(xs:List α)(k:Nat)(hk:k<xs.length)(h:∀ x∈xs.take k,p x=false)(hx:p xs[k]=true):mf p xs=k:=by
 induction xs generalizing k with
 | nil=>simp at hk
 | cons x r ih=>
  cases k with
  | zero=>simp at hx;simp[mf,hx]
  | succ k=>
   have h0:p x=false:=h x (by simp)
   have:=ih k (by simpa using hk) (λy hy=>h y (by simp[hy])) (by simpa using hx)
   rw[mf,Qc (by simp[h0]),Qc (by omega),this];simp
theorem Mw(p:α->Bool)(xs:List α):decide (0<=mf p xs)=xs.any p:=by
 induction xs with
 | nil=>rfl
 | cons x r ih=>
  rw[mf];by_cases h:p x=true
  ·simp[h]
  ·rw[Qc h];have h':p x=false:=by simpa using h
   rw[List.any_cons,h',Bool.false_or,<-ih];split
   ·rename_i e;rw[e]
   ·rename_i e;have : -1<=mf p r:=by
     clear ih h h' e
     induction r with
     | nil=>simp[mf]
     | cons y r ih2=>rw[mf];split;omega;split <;> omega
    rw[Bool.eq_iff_iff];simp;omega
def Ly(R:aFJ α)(B:Nat)(w:World)(f:FuncId)(cap:Array Value)(p:α->Bool)(xs:List α):Prop:=
 ∀ (W:World) (x:α) (e0 e1:Value),x∈xs->Below B w W->B<=W.heap.size->R W B [e0,e1] x->Calls prog f (#[.agg #[e0,e1]]++cap) W λe w'=>e = .returned (.bool (p x))/\Below W.heap.size W w'
theorem Yl{R:aFJ α}(hK:dL R)(f:FuncId)(eg:∀ args w,(callFunc f args).run prog w = .ok (.enter f args) w)(cap:Array Value)(p:α->Bool)(v:Value)(xs:List α)(w:World)(B:Nat)(hB:B<=w.heap.size)(h:SlR R 2 w B v xs)
 (hp:Ly R B w f cap p xs) :
 Calls prog 166 #[v,.func (.func f) #[] cap] w (aFQ w.heap.size w (.int .i64 (mf p xs))):=by
 have H:=jq h;have HP:=jq hp;obtain⟨A,c,rfl,bq,bN,kl⟩:=h;clear kl hp;go_enter func166,ntmps166;go_wp2_with fail;go_loopw [8] (λi wr=>∃ k:Nat,k<=xs.length/\i = .int .i64 k/\Below w.heap.size w wr/\Hid (∀ x∈xs.take k,p x=false)) (λi _=>xs.length - (intOf i).toNat)
 case atStart=>exact⟨0,jQ _,rfl,vQ _ _,jq (by simp)⟩
 case round=>
  obtain⟨k,hk,rfl,hb,HA⟩:=hrel;by_cases aa:k<xs.length
  ·have bR:=hb.mono hB;obtain⟨A',c',hA',_,_,bX⟩:=H.out.keep hK bR
   cases hA'
   obtain⟨b,o,e,rfl,bD,hlen,hce,hR⟩:=bX k _ (aQ aa)
   match e,hlen with
   | [e0,e1],_=>
   have h0:wr.cell? ⟨b,o+k * 2,none⟩=some e0:=hce 0 _ rfl;have h1:wr.cell? ⟨b,o+k * 2+1,none⟩=some e1:=hce 1 _ rfl;have ci:=HP.out wr xs[k] e0 e1 (List.getElem_mem aa) bR (by have:=hb.size;omega) hR;have HC:=jq ci;have dE:=jq hb;clear bX hce hR ci bR hb;go_wp2_with (fail);refine HC.out.mono ?_;rintro e w2 ⟨rfl,ae⟩;have ai:=jq ae;clear ae;by_cases br:p xs[k]=true
   ·have HX:=jq br;go_wp2_with (fail);go_ret;exact⟨jr (Mv p xs k aa HA.out HX.out).symm,dE.out.trans (ai.out.mono dE.out.size)⟩
   ·have DS:p xs[k]=false:=by simpa using br
    have HX:=jq DS;clear br;go_wp2_with (fail);go_roundw
    case rel=>
     refine⟨k+1,by omega,by go_num,dE.out.trans (ai.out.mono dE.out.size),jq ?_⟩;rw[fQ aa];intro x hx;rcases List.mem_append.1 hx with h | h
     ·exact HA.out x h
     ·simp at h;subst h;exact HX.out
    case measure=>simp[intOf] <;> omega
  ·go_wp2_with fail;go_ret;exact⟨jr (Mx p xs (by have:=HA.out;rwa [kQ (by omega)] at this)).symm,hb⟩
theorem Ui{R:aFJ α}(hK:dL R)(f:FuncId)(eg:∀ args w,(callFunc f args).run prog w = .ok (.enter f args) w)(cap:Array Value)(p:α->Bool)(v:Value)(xs:List α)(w:World)(B:Nat)(hB:B<=w.heap.size)(h:SlR R 2 w B v xs)
 (hp:Ly R B w f cap p xs) :
 Calls prog 93 #[v,.func (.func f) #[] cap] w (aFQ w.heap.size w (.bool (xs.any p))):=by
 have H:=jq h;have HP:=jq hp;have HE:=jq eg;clear h hp eg;go_enter func93,ntmps93;go_wp2_with (go_at_call 166;refine (Yl hK f HE.out cap p v xs w B hB H.out HP.out).mono ?_;rintro e w' ⟨rfl,hb⟩);go_ret;exact⟨ag (Mw p xs),hb⟩
end
def eJ(_:World)(_:Nat)(e:List Value)(x:Np.Span):Prop:=e = [.int .i64 x.frm,.int .i64 x.til]
theorem iu:dL eJ:=λ_ _ _ _ _ h _=>h
theorem pW:dZ eJ:=λ_ _ _ _ _ h _=>h
def Np.t8(l:List Np.Span)(t:Int):Bool:=l.any λs=>decide (s.frm<=t)&&decide (t<s.til)
theorem VJ(b:Nat)(t f u:Int)(w:World)(h:w.cell? ⟨b,0,none⟩=some (.int .i64 t)) :
 Calls prog 94 #[.agg #[.int .i64 f,.int .i64 u],.pointer (some ⟨b,0,none⟩)] w (aFQ w.heap.size w (.bool (decide (f<=t)&&decide (t<u)))):=by
 have lb:=World.block_lt_of_cell? w _ h;simp only at lb;go_enter func94,ntmps94;go_wp2_with fail
 all_goals
  go_ret;go_light;refine⟨ag ?_,(vQ _ w).alloc (bQ _) _⟩;simp_all <;> (intros;omega)
theorem VO(v:Value)(l:List Np.Span)(t:Int)(w:World)(h:SlR eJ 2 w w.heap.size v l) :
 Calls prog 46 #[v,.int .i64 t] w (aFQ w.heap.size w (.bool (Np.t8 l t))):=by
 have H:=jq h;obtain⟨A,c,rfl,bq,bN,kl⟩:=h;clear kl;have cE:∀ o,Below w.heap.size w (w.alloc o):=λo=>(vQ _ w).alloc (bQ _) _;have az:=jq cE;clear cE;go_enter func46,ntmps46;go_wp2_with fail;refine (Ui (R:=eJ) iu 94 (enters_of func94 (by kernel_rfl) rfl) _ (λs=>decide (s.frm<=t)&&decide (t<s.til)) _ l _ _ (bQ _) ?_ ?_).mono ?_
 ·exact (H.out.keep iu (az.out _)).more pW (by simp)
 ·intro W x e0 e1 hx hW Am Do;simp only[eJ,List.cons.injEq,and_true] at Do;obtain⟨rfl,rfl⟩:=Do;refine VJ w.heap.size t x.frm x.til W ?_;rw[hW.cell (by simp)];go_simp
 ·rintro e w1 ⟨rfl,hb⟩;have HB:=jq hb;clear hb;go_wp2_with fail;go_ret;exact⟨rfl,(az.out _).trans (HB.out.mono (by simp))⟩
end
section
open Go.ChangeShapes Go.WideShapes Go.ChangeAt Go.RowKit
theorem MH:prog.globalNamed "nameplan/record.rules" = some 0:=by kernel_rfl
theorem Vc:(prog.globals[0]?).map (·.type)=some 284:=by kernel_rfl
theorem TS:prog.cellsOf 283=8:=by kernel_rfl
theorem iD:prog.cellsOf 3=1:=by kernel_rfl
theorem GD:prog.cellsOf 4=1:=by kernel_rfl
def oF:Value->DataW Unit
 | .int k n=>.lit (.int k n)
 | .bool b=>.lit (.bool b)
 | _=>.nil
theorem YN:(Rows.laid_nameplan_record_rules:DataW Unit) = .agg ((List.range 9).map λ(k:Nat)=>.agg ((ja (Np.bY k)).toList.map oF)):=by
 rfl
section
variable {w:World} {base:Nat} {spare:Nat->Bool} {held:Bool} {fuel:Nat} {cs:List Value} {p:List MemPlace}
theorem BP{n:Int}(h:DataW.trod (λ_=>()) prog w base spare held fuel 3 cs=some (oF (.int .i64 n),p)):cs = [.int .i64 n]:=by
 obtain⟨m,rfl,hx,_⟩:=DataW.trod_int underlying3 h;simp only[oF,Prod.mk.injEq,DataW.lit.injEq,Lit.int.injEq] at hx;rw[hx.1.2]
theorem Jj{b:Bool}(h:DataW.trod (λ_=>()) prog w base spare held fuel 4 cs=some (oF (.bool b),p)):cs = [.bool b]:=by
 obtain⟨m,rfl,hx⟩:=DataW.trod_bool underlying4 h;simp only[oF,Prod.mk.injEq,DataW.lit.injEq,Lit.bool.injEq] at hx;rw[hx.1]
theorem sY{cs:List Value}{o:Nat}{v:Value}(h:(cs.drop o).take 1 = [v]):cs[o]?=some v:=by
 have:=Qd (·[0]?) h
 simpa [List.getElem?_take,List.getElem?_drop] using this
theorem PW{r:Np.Rule}(h:DataW.trod (λ_=>()) prog w base spare held fuel 283 cs=some (.agg ((ja r).toList.map oF),p)):∀ (j:Nat) (v:Value),(ja r).toList[j]?=some v->cs[j]?=some v:=by
 obtain⟨ys,n,_,hx,_,hlen,hf⟩:=DataW.trod_struct underlying283 h;simp only[Prod.mk.injEq,DataW.agg.injEq] at hx;have hy:∀ (j:Nat) (v:Value),(ja r).toList[j]?=some v->∃ q,ys[j]?=some (oF v,q):=λj v hj=>by
  have h1:(ys.map (·.1))[j]?=some (oF v):=by rw[<-hx.1];simp[hj]
  simp only[List.getElem?_map,Option.map_eq_some_iff] at h1;obtain⟨y,rY,mH⟩:=h1;exact⟨y.2,by rw[rY,<-mH]⟩
 intro j v hj;obtain⟨q,hq⟩:=hy j v hj
 match j,hj,hq with
 | 0,hj,hq=>simp[ja] at hj;subst hj;have:DataW.trod (λ_=>()) prog w base spare held n 3 ((cs.drop 0).take (prog.cellsOf 3))=ys[0]?:=hf 0 _ rfl;rw[hq,iD] at this;exact sY (BP this)
 | 1,hj,hq=>simp[ja] at hj;subst hj;have:DataW.trod (λ_=>()) prog w base spare held n 3 ((cs.drop 1).take (prog.cellsOf 3))=ys[1]?:=hf 1 _ rfl;rw[hq,iD] at this;exact sY (BP this)
 | 2,hj,hq=>simp[ja] at hj;subst hj;have:DataW.trod (λ_=>()) prog w base spare held n 3 ((cs.drop 2).take (prog.cellsOf 3))=ys[2]?:=hf 2 _ rfl;rw[hq,iD] at this;exact sY (BP this)
 | 3,hj,hq=>simp[ja] at hj;subst hj;have:DataW.trod (λ_=>()) prog w base spare held n 3 ((cs.drop 3).take (prog.cellsOf 3))=ys[3]?:=hf 3 _ rfl;rw[hq,iD] at this;exact sY (BP this)
 | 4,hj,hq=>simp[ja] at hj;subst hj;have:DataW.trod (λ_=>()) prog w base spare held n 3 ((cs.drop 4).take (prog.cellsOf 3))=ys[4]?:=hf 4 _ rfl;rw[hq,iD] at this;exact sY (BP this)
 | 5,hj,hq=>simp[ja] at hj;subst hj;have:DataW.trod (λ_=>()) prog w base spare held n 4 ((cs.drop 5).take (prog.cellsOf 4))=ys[5]?:=hf 5 _ rfl;rw[hq,GD] at this;exact sY (Jj this)
 | 6,hj,hq=>simp[ja] at hj;subst hj;have:DataW.trod (λ_=>()) prog w base spare held n 4 ((cs.drop 6).take (prog.cellsOf 4))=ys[6]?:=hf 6 _ rfl;rw[hq,GD] at this;exact sY (Jj this)
 | 7,hj,hq=>simp[ja] at hj;subst hj;have:DataW.trod (λ_=>()) prog w base spare held n 4 ((cs.drop 7).take (prog.cellsOf 4))=ys[7]?:=hf 7 _ rfl;rw[hq,GD] at this;exact sY (Jj this)
 | j+8,hj,_=>simp[ja] at hj
end
theorem ajK{W:World}{rest:List (String×DataW Unit)}(h:laidMet prog (("nameplan/record.rules",Rows.laid_nameplan_record_rules)::rest) W):iR W W.heap.size:=by
 obtain⟨ps,⟨g',t',cs,fuel,p,q,hg',ht',XM,hd,_,_⟩,_⟩:=h;obtain rfl:=Option.some.inj (MH.symm.trans hg');obtain rfl:=Option.some.inj (Vc.symm.trans ht');rw[YN] at hd;obtain⟨xs,m,_,hx,_,hlen,hf⟩:=DataW.trod_array underlying284 hd;simp only[Prod.mk.injEq,DataW.agg.injEq] at hx;have hcell:∀ (i:Nat) (v:Value),cs[i]?=some v->W.cell? ⟨0,i,none⟩=some v:=λi v hi=>by rw[World.var?_cell MH XM i];exact hi
 refine⟨?_,λk hk j v hj=>?_⟩
 ·have h0:=hf 0 (by omega);obtain⟨x0,dX⟩:∃ x,xs[0]?=some x:=⟨_,aQ (by omega)⟩;rw[dX] at h0;have h1:x0.1 = .agg ((ja (Np.bY (0:Nat))).toList.map oF):=by
   have:(xs.map (·.1))[0]?=some (.agg ((ja (Np.bY (0:Nat))).toList.map oF)):=by rw[<-hx.1];rfl
   rw[List.getElem?_map,dX] at this;simpa using this
  rw[show x0=(x0.1,x0.2) from rfl,h1] at h0;have h2:=PW h0 0 _ rfl;simp only[Nat.zero_mul,List.drop_zero,List.getElem?_take] at h2;split at h2
  ·exact World.block_lt_of_cell? _ _ (hcell 0 _ (by simpa using h2))
  ·cases h2
 ·have h0:=hf k hk;obtain⟨x0,dX⟩:∃ x,xs[k]?=some x:=⟨_,aQ (by omega)⟩;rw[dX] at h0;have h1:x0.1 = .agg ((ja (Np.bY k)).toList.map oF):=by
   have:(xs.map (·.1))[k]?=some (.agg ((ja (Np.bY k)).toList.map oF)):=by rw[<-hx.1,List.getElem?_map,List.getElem?_range hk];rfl
   rw[List.getElem?_map,dX] at this;simpa using this
  rw[show x0=(x0.1,x0.2) from rfl,h1] at h0;have h2:=PW h0 j v hj;rw[TS,List.getElem?_take] at h2;split at h2
  ·rw[List.getElem?_drop] at h2;exact hcell _ _ (by simpa using h2)
  ·cases h2
end
section
open Go.ChangeShapes Go.WideShapes Go.ChangeAt Go.RowKit Go.Deep
def gO{α:Type}(P:Program)(t:TypeId)(sz:Nat)(R:aFJ α):Prop:=
 ∀ (H:Type) (enc:TypeId×Value->H) (W:World) (base:Nat) (spare:Nat->Bool) (held:Bool) (fuel:Nat) (cs:List Value) (d:DataW H) (ps:List MemPlace),
   DataW.trod enc P W base spare held fuel t cs=some (d,ps)->(∀ n∈d.weights P t,n<=reachBytes)->cs.length=sz/\∃ x,R W W.heap.size cs x
def RNum(k:IntKind)(_:World)(_:Nat)(e:List Value)(x:Int):Prop:=e = [.int k x]/\(Lit.int k x).wf=true
theorem jU{P:Program}{t:TypeId}{k:IntKind}(ht:P.underlying t=some (.int k)):gO P t 1 (RNum k):=by
 intro H enc W base spare held fuel cs d ps h _;obtain⟨n,rfl,_,XR⟩:=DataW.trod_int ht h;exact⟨rfl,n,rfl,XR⟩
def RStr(_:World)(_:Nat)(e:List Value)(x:List UInt8):Prop:=∃ s:ByteArray,s.data.toList=x/\s.size<=140737488355328/\e = [.string s]
theorem yv{P:Program}{t:TypeId}(ht:P.underlying t=some .string):gO P t 1 RStr:=by
 intro H enc W base spare held fuel cs d ps h hw;obtain⟨s,rfl,hx,_⟩:=DataW.trod_string ht h;simp only[Prod.mk.injEq] at hx;rw[hx.1] at hw
 have:=hw s.data.toList.length (by simp[DataW.weights])
 have h2:=reachBytes_lt;exact⟨rfl,s.data.toList,s,rfl,by rw[aX] at this;omega,rfl⟩
def RSl{α:Type}(R:aFJ α)(sz:Nat)(W:World)(B:Nat)(e:List Value)(xs:List α):Prop:=∃ v,e = [v]/\SlR R sz W B v xs
theorem RSl.more{α:Type}{R:aFJ α}{sz:Nat}(h:dZ R):dZ (RSl R sz):=λ_ _ _ _ _ ⟨v,hv,hs⟩ hb=>⟨v,hv,hs.more h hb⟩
theorem QO{H:Type}{P:Program}{e:TypeId} : ∀ {ds:List (DataW H)} {d:DataW H},d∈ds->∀ n∈d.weights P e,n∈DataW.weightsAll P e ds
 | d0::ds,d,hd,n,hn=>by
   simp only[DataW.weightsAll,List.mem_append];rcases List.mem_cons.1 hd with rfl | hd
   ·exact .inl hn
   ·exact .inr (QO hd n hn)
theorem LG(b o n:Nat):(⟨b,o,none⟩:Addr).add n=⟨b,o+n,none⟩:=by
 unfold Addr.add;split
 ·rename_i h;subst h;rfl
 ·rfl
theorem Tj{W:World}{a:Addr}{v:Value}(h:W.cell? a=some v):a=⟨a.block,a.off,none⟩:=by
 have:=World.cell?_spot h
 cases a;simp_all
theorem wD{α:Type}{P:Program}{t e:TypeId}{sz:Nat}{R:aFJ α}(ht:P.underlying t=some (.slice e))(hC:P.cellsOf e=sz)(an:0<sz)(hb:0<P.bytesOf e)(hR:gO P e sz R):gO P t 1 (RSl R sz):=by
 intro H enc W base spare held fuel cs d ps h hw;rcases open_slice ht h with ⟨rfl,_⟩ | ⟨a,len,cap,m,n,D,Pl,rfl,mi,hl,hm,lN,hx,hi⟩
 ·exact⟨rfl,[],_,rfl,none,0,rfl,by simp,by simp,λi x hx=>by simp at hx⟩
 ·simp only[Prod.mk.injEq] at hx;rw[hx.1] at hw;have ya:len<=m:=by rw[lN];split <;> omega
  have hlen:len<=140737488355328:=by
   have:=hw ((((List.range len).map D).length+((List.range (m - len)).map λj=>D (len+j)).length) * P.bytesOf e) (by simp[DataW.weights,ht])
   simp only[List.length_map,List.length_range] at this;have h2:=reachBytes_lt;have h3:len+(m - len)<=(len+(m - len)) * P.bytesOf e:=Nat.le_mul_of_pos_right _ hb;omega
  have bX:∀ i,i<len->∃ x cs',W.cells? base (a.add (i * sz)) sz=some cs'/\cs'.length=sz/\R W W.heap.size cs' x:=λi ed=>by
   obtain⟨cs',hc,XK⟩:=hi i (by omega);rw[hC] at hc;obtain⟨h1,x,h2⟩:=hR H enc W base spare held n cs' (D i) (Pl i) XK (λk hk=>hw k (by
    simp only[DataW.weights,ht];exact mQ _ (List.mem_append_left _ (QO (List.mem_map.2 ⟨i,List.mem_range.2 ed,rfl⟩) k hk))))
   exact⟨x,cs',hc,h1,h2⟩
  have bG:∀ k,k<=len->∃ xs:List α,xs.length=k/\∀ i x,xs[i]?=some x->∃ cs',W.cells? base (a.add (i * sz)) sz=some cs'/\cs'.length=sz/\R W W.heap.size cs' x:=by
   intro k
   induction k with
   | zero=>exact λ_=>⟨[],rfl,λi x hx=>by simp at hx⟩
   | succ k ih=>
    intro hk;obtain⟨xs,tM,nM⟩:=ih (by omega);obtain⟨x,hx⟩:=bX k (by omega);refine⟨xs ++ [x],by simp[tM],λi y hy=>?_⟩;rcases Nat.lt_or_ge i xs.length with aa | oM
    ·rw[List.getElem?_append_left aa] at hy;exact nM i y hy
    ·rw[oQ oM] at hy
     have:i - xs.length=0:=by
      have:=(cQ.1 hy).1
      simp at this;omega
     rw[this] at hy;simp at hy;subst hy;rw[show i=k by omega];exact hx
  obtain⟨xs,tM,nM⟩:=bG len (bQ _);refine⟨rfl,xs,_,rfl,some a,cap,by rw[tM],by omega,by omega,λi x hx=>?_⟩;have h0:0<len:=by have:=(cQ.1 hx).1;omega
  obtain⟨c0,Ho,aGK,_⟩:=nM 0 _ (aQ (by omega));obtain⟨_,_,V8⟩:=World.cells?_some Ho;have ha:a=⟨a.block,a.off,none⟩:=by
   have h1:=V8 0 an;rw[show (a.add (0 * sz)).add 0=a by simp[Addr.add]] at h1;rw[aQ (by omega)] at h1;exact Tj h1
  obtain⟨cs',hc,lK,Do⟩:=nM i x hx;obtain⟨_,_,V7⟩:=World.cells?_some hc;have hce:ek W a.block (a.off+i * sz) cs':=λj u hj=>by
   have nF:=(cQ.1 hj).1;have h1:=V7 j (by omega);rw[hj,ha] at h1;have h2:((⟨a.block,a.off,none⟩:Addr).add (i * sz)).add j=⟨a.block,a.off+i * sz+j,none⟩:=by
    rw[LG,LG]
   rw[h2] at h1;exact h1
  refine⟨a.block,a.off,cs',by rw[<-ha],?_,lK,hce,Do⟩
  have:=World.block_lt_of_cell? W _ (hce 0 _ (aQ (by omega)))
  exact this
theorem qS{P:Program}{t:TypeId}{fs:Array Field}(hs:P.underlying t=some (.struct fs)){H:Type}{enc:TypeId×Value->H}{W:World}{base:Nat}{spare:Nat->Bool}{held:Bool}{fuel:Nat}{cs:List Value}{d:DataW H}{ps:List MemPlace}
 (h:DataW.trod enc P W base spare held fuel t cs=some (d,ps)) (hw:∀ n∈d.weights P t,n<=reachBytes) :
 cs.length=P.cellsOf t/\∀ (j:Nat) (f:Field),fs[j]?=some f->∃ n d' ps',DataW.trod enc P W base spare held n f.type ((cs.drop f.offset).take (P.cellsOf f.type))=some (d',ps')/\∀ k∈d'.weights P f.type,k<=reachBytes:=by
 obtain⟨ys,n,_,hx,hl,hyl,hf⟩:=DataW.trod_struct hs h;simp only[Prod.mk.injEq] at hx;refine⟨hl,λj f hj=>?_⟩;have nF:j<fs.size:=(eQ.1 hj).1;have h1:=hf j f hj;rw[aQ (by omega)] at h1;refine⟨n,_,_,h1,λk hk=>hw k ?_⟩;rw[hx.1];simp only[DataW.weights,hs];refine DataW.weights_mem_each (j:=j) (t:=f.type) (d:=(ys[j]'(by omega)).1) ?_ ?_ k hk
 ·simp[hj]
 ·simp[aQ (show j<ys.length by omega)]
theorem LY{H:Type}{enc:TypeId×Value->H}{P:Program}(hl:laidOutB P=true){W W':World}(hb:Below W.heap.size W W') :
 ∀ {ts:List TypeId} {vs:List Value} {ds:List (DataW H)} {ps:List MemPlace},(∀ t∈ts,P.readableRec t=true/\t<P.types.size)->DataW.TrodAll enc P W 0 (λ_=>true) true ts vs ds ps->(∀ x∈ps,x.block<W.heap.size)->
   DataW.TrodAll enc P W' 0 (λb=>decide (b<W.heap.size)) true ts vs ds ps
 | [],[],[],_,_,h,_=>h
 | t::ts,v::vs,d::ds,ps,hr,h,aa=>by
   obtain⟨p,q,h1,h2,rfl⟩:=h;have ht:=hr t (by simp);exact⟨p,q,Below.trod hl ht.1 ht.2 h1 hb (λx hx=>aa x (by simp[hx])),LY hl hb (λt ht=>hr t (by simp[ht])) h2 (λx hx=>aa x (by simp[hx])),rfl⟩
 | [],_::_,_,_,_,h,_=>h.elim
 | [],[],_::_,_,_,h,_=>h.elim
 | _::_,[],_,_,_,h,_=>h.elim
 | _::_,_::_,[],_,_,h,_=>h.elim
theorem YT{H:Type}{enc:TypeId×Value->H}{P:Program}{f:Func}{s:ChangeSpec}{W W':World}{args:Array Value}{v:Value}{ds gs:List (DataW H)}{before:List MemPlace}
 (hl:laidOutB P=true) (hr:∀ t∈f.params.toList,P.readableRec t=true/\t<P.types.size) (da:s.vars = [])
 (hW:DataW.Whole enc P f.params.toList s.vars false W args.toList ds gs before) (hb:Below W.heap.size W W')
 (rS:∀ (b:Nat) (sp:Nat->Bool) (hd:Bool),DataW.TrodAll enc P W' b sp hd f.resultTypes.toList (v.resultList f.resultTypes.size) (s.fn H (ds++gs)).results [])
 (Hf:(s.fn H (ds++gs)).args=ds) (XN:(s.fn H (ds++gs)).vars = []) :
 s.post enc P f false true false false W args v W':=by
 have aa:=hW.lt;have hW':=hW;obtain⟨p,q,hA,hV,rfl,_,_⟩:=hW;rw[da] at hV;have hq:q = []:=by
  cases gs with
  | nil=>exact hV
  | cons _ _=>exact hV.elim
 subst hq;refine⟨ds,gs,_,[],p,[],hW',rS _ _ _,?_,?_,World.keptBut_mono (λx hx=>⟨hx,.inr (by simpa using hx)⟩) (hb.frame (·∈p ++ [])),λh=>by cases h⟩
 ·rw[Hf];exact LY hl hb hr hA (λx hx=>aa x (by simp[hx]))
 ·rw[XN,da];rfl
theorem xI:prog.cellsOf 9=1:=by kernel_rfl
theorem lo:laidOutB prog=true:=by kernel_rfl
end
end Go.Proofs.YtfnopgdcaanaiaaGreatDoor
