/- Parts of the proof. No condition. -/
import Derived.Test.YtfnopgdcaanaiaaGreatDoorRows
import Derived.ProofKit
import Derived.OpenShut
import Derived.Deep.DeepHandedRow
import Derived.Lib.LaidTab
import Derived.Deep.Slices
import Derived.Test.YtfnopgdcaanaiaaGreatDoorV01
set_option linter.all false
set_option maxRecDepth 100000
set_option maxHeartbeats 8000000
namespace Go.Proofs.YtfnopgdcaanaiaaGreatDoor
open Go.Proofs.Tryz
section
open Go.RowKit
def iv(w:World)(B:Nat):Prop:=0<B/\∀ k:Nat,k<9->gG w 0 (k * 8) (jo (Np.bV k)).toList
theorem iv.keep{w w':World}{B:Nat}(h:iv w B)(hb:Below B w w'):iv w' B:=⟨h.1,λk hk=>(h.2 k hk).keep hb h.1⟩
theorem iv.more{w:World}{B B':Nat}(h:iv w B)(hB:B<=B'):iv w B':=⟨lQ h.1 hB,h.2⟩
def cA(_:World)(_:Nat)(e:List Value)(d:Np.Datum):Prop:=∃ s:ByteArray,s.data.toList=d.text/\s.size<=140737488355328/\e = [.string s,.int .i64 d.n,.int .i64 d.m]
theorem bD:dH cA:=λ_ _ _ _ _ h _=>h
theorem bP:eh cA:=λ_ _ _ _ _ h _=>h
theorem UO{w w':World}(h:w'=w):Below w.heap.size w w':=by rw[h];exact vQ _ _
theorem Km(k ln mn lm mm:Int)(ev si wi:Bool)(s:ByteArray)(hs:s.size<=140737488355328)(n m:Int)(w:World)(t:Bool)(ht:Np.kn ⟨k,ln,mn,lm,mm,ev,si,wi⟩ ⟨s.data.toList,n,m⟩=t) :
 Calls prog 230 #[.agg #[.int .i64 k,.int .i64 ln,.int .i64 mn,.int .i64 lm,.int .i64 mm,.bool ev,.bool si,.bool wi],.agg #[.string s,.int .i64 n,.int .i64 m]] w
  λe w'=>e = .returned (.bool t)/\Below w.heap.size w w':=by
 subst ht;exact aAK k ln mn lm mm ev si wi s hs n m w
def Uq(w1:World)(o:Obj)(r:Np.Rule)(ds:List Np.Datum)(i:Value)(wr:World):Prop:=
 ∃ j:Nat,j<=ds.length/\i = .int .i64 j/\Below (w1.alloc o).heap.size (w1.alloc o) wr/\Np.jz r none ds=Np.jz r (ds.take j).getLast? (ds.drop j)
theorem JT(s:ByteArray)(hs:s.size<=140737488355328)(ty life:Int)(v:Value)(ds:List Np.Datum)(w:World)(hR:iv w w.heap.size)(hd:SlR cA 3 w w.heap.size v ds) :
 Calls prog 152 #[.agg #[.string s,.int .i64 ty,.int .i64 life,v]] w
  λe w'=>e = .returned (.bool (Np.dC ⟨s.data.toList,ty,life,ds⟩))/\Below w.heap.size w w':=by
 have HR:=jq hR;have HD:=jq hd;obtain⟨A,c,rfl,be,bC,ic⟩:=hd;clear hR ic;have HF:Hid (∀ t:Bool,t=Np.dC ⟨s.data.toList,ty,life,ds⟩->(.bool t:Value) = .bool (Np.dC ⟨s.data.toList,ty,life,ds⟩)):=λt ht=>by rw[ht]
 go_enter func152,ntmps152;go_wp2_with fail;refine (nameValid_any _ hs _).mono ?_;rintro e w1 ⟨rfl,hb⟩;have bW:Below w.heap.size w w1:=((vQ _ w).alloc (bQ _) _).trans (hb.mono (by simp));have al:w.heap.size+1<=w1.heap.size:=by have:=hb.size;simpa using this
 have cI:w.heap.size<w1.heap.size:=by omega
 have c0:w1.cell? ⟨w.heap.size,0,none⟩=some (.string s):=by rw[hb.cell (by simp)];go_simp
 have c1:w1.cell? ⟨w.heap.size,1,none⟩=some (.int .i64 ty):=by rw[hb.cell (by simp)];go_simp
 have c2:w1.cell? ⟨w.heap.size,2,none⟩=some (.int .i64 life):=by rw[hb.cell (by simp)];go_simp
 have c3:w1.cell? ⟨w.heap.size,3,none⟩=some (.slice A ds.length c):=by rw[hb.cell (by simp)];go_simp
 have HB:=jq hb;clear hb;by_cases fB:1<=ty/\ty<=8
 ·obtain⟨k,rfl⟩:=Int.eq_ofNat_of_zero_le (by omega:0<=ty);have XE:k<9:=by omega
  have sh:=(HR.out.keep bW).2 k XE;have r0:w1.cell? ⟨0,k * 8,none⟩=some (.int .i64 (Np.bV k).text):=sh 0 _ rfl;have r1:w1.cell? ⟨0,k * 8+1,none⟩=some (.int .i64 (Np.bV k).leastN):=sh 1 _ rfl;have r2:w1.cell? ⟨0,k * 8+2,none⟩=some (.int .i64 (Np.bV k).mostN):=sh 2 _ rfl;have r3:w1.cell? ⟨0,k * 8+3,none⟩=some (.int .i64 (Np.bV k).leastM):=sh 3 _ rfl;have r4:w1.cell? ⟨0,k * 8+4,none⟩=some (.int .i64 (Np.bV k).mostM):=sh 4 _ rfl;have r5:w1.cell? ⟨0,k * 8+5,none⟩=some (.bool (Np.bV k).even):=sh 5 _ rfl;have r6:w1.cell? ⟨0,k * 8+6,none⟩=some (.bool (Np.bV k).single):=sh 6 _ rfl;have r7:w1.cell? ⟨0,k * 8+7,none⟩=some (.bool (Np.bV k).wild):=sh 7 _ rfl;clear sh;go_wp2_with (first
   | (go_at_call 228;refine (Ks _ _ _ _).mono ?_;rintro e w' ⟨rfl,rfl⟩)
   | (go_at_call 229;refine (Pw _ hs _).mono ?_;rintro e w' ⟨rfl,rfl⟩))
  all_goals first
   | (go_ret
      go_light;refine⟨ae ?_,by first | exact bW | exact bW.alloc (by omega) _⟩;simp_all [Np.dC] <;> (intros;omega))
   | skip
  all_goals
   have hv:Np.dC ⟨s.data.toList,k,life,ds⟩=Np.jz (Np.bV k) none ds:=by
    go_light;simp_all [Np.dC] <;> (intros;omega)
  rotate_left 3
  all_goals
   have HV:=jq hv;clear hv HF;go_loopw [52] (λi wr=>Uq w1 (Obj.cells (jo (Np.bV k)) 283) (Np.bV k) ds i wr) (λi _=>ds.length - (intOf i).toNat)
   case atStart=>
    refine⟨0,jQ _,rfl,UO ?_,rfl⟩;go_light;simp_all [jo]
   case round=>
    obtain⟨j,hj,rfl,aB,hg⟩:=hrel;have HG:=jq hg;clear hg;by_cases aa:j<ds.length
    ·have Jr:=aB.size;simp only[World.size_alloc] at Jr;have lS:Below w.heap.size w wr:=(bW.alloc (by omega) _).trans (aB.mono (by simp;omega));have Yx:w.heap.size<wr.heap.size:=by omega
     have ai:w1.heap.size<wr.heap.size:=by omega
     have d3:wr.cell? ⟨w.heap.size,3,none⟩=some (.slice A ds.length c):=by rw[aB.cell (by simp;omega)];rw[World.cell?_alloc_lt _ _ _ (by simpa using cI)];exact c3
     have q0:wr.cell? ⟨w1.heap.size,0,none⟩=some (.int .i64 (Np.bV k).text):=by rw[aB.cell (by simp)];exact World.cell?_alloc_new w1 _ _ _
     have q1:wr.cell? ⟨w1.heap.size,1,none⟩=some (.int .i64 (Np.bV k).leastN):=by rw[aB.cell (by simp)];exact World.cell?_alloc_new w1 _ _ _
     have q2:wr.cell? ⟨w1.heap.size,2,none⟩=some (.int .i64 (Np.bV k).mostN):=by rw[aB.cell (by simp)];exact World.cell?_alloc_new w1 _ _ _
     have q3:wr.cell? ⟨w1.heap.size,3,none⟩=some (.int .i64 (Np.bV k).leastM):=by rw[aB.cell (by simp)];exact World.cell?_alloc_new w1 _ _ _
     have q4:wr.cell? ⟨w1.heap.size,4,none⟩=some (.int .i64 (Np.bV k).mostM):=by rw[aB.cell (by simp)];exact World.cell?_alloc_new w1 _ _ _
     have q5:wr.cell? ⟨w1.heap.size,5,none⟩=some (.bool (Np.bV k).even):=by rw[aB.cell (by simp)];exact World.cell?_alloc_new w1 _ _ _
     have q6:wr.cell? ⟨w1.heap.size,6,none⟩=some (.bool (Np.bV k).single):=by rw[aB.cell (by simp)];exact World.cell?_alloc_new w1 _ _ _
     have q7:wr.cell? ⟨w1.heap.size,7,none⟩=some (.bool (Np.bV k).wild):=by rw[aB.cell (by simp)];exact World.cell?_alloc_new w1 _ _ _
     obtain⟨A',c',hA',_,_,aY⟩:=HD.out.keep bD lS
     cases hA'
     obtain⟨b,o,e,rfl,bj,_,hce,sd,tU,tV,rfl⟩:=aY j _ (aQ aa);have e0:wr.cell? ⟨b,o+j * 3,none⟩=some (.string sd):=hce 0 _ rfl;have e1:wr.cell? ⟨b,o+j * 3+1,none⟩=some (.int .i64 ds[j].n):=hce 1 _ rfl;have e2:wr.cell? ⟨b,o+j * 3+2,none⟩=some (.int .i64 ds[j].m):=hce 2 _ rfl;have bR:b<wr.heap.size:=by omega
     have aO:=jq aB;have aD:=jq lS;have xq:=jq aY;have xL:=jq tU;clear hce aB lS aY tU c0 c1 c2 c3 r0 r1 r2 r3 r4 r5 r6 r7;go_wp2_with fail;have p0:=World.cell?_alloc_new wr #[.string sd,.int .i64 ds[j].n,.int .i64 ds[j].m] 128 0;have p1:=World.cell?_alloc_new wr #[.string sd,.int .i64 ds[j].n,.int .i64 ds[j].m] 128 1;have p2:=World.cell?_alloc_new wr #[.string sd,.int .i64 ds[j].n,.int .i64 ds[j].m] 128 2;have keep:∀ b o,b<wr.heap.size->(wr.alloc (.cells #[.string sd,.int .i64 ds[j].n,.int .i64 ds[j].m] 128)).cell? ⟨b,o,none⟩=wr.cell? ⟨b,o,none⟩:=λb o h=>World.cell?_alloc_lt _ _ _ h;have tY:(wr.alloc (.cells #[.string sd,.int .i64 ds[j].n,.int .i64 ds[j].m] 128)).heap.size=wr.heap.size+1:=World.size_alloc _ _;have fR:Below wr.heap.size wr (wr.alloc (.cells #[.string sd,.int .i64 ds[j].n,.int .i64 ds[j].m] 128)):=(vQ _ _).alloc (bQ _) _;generalize wr.alloc (.cells #[.string sd,.int .i64 ds[j].n,.int .i64 ds[j].m] 128)=wx at p0 p1 p2 keep tY fR |-;have cK:w.heap.size<wx.heap.size:=by omega
     have bM:w1.heap.size<wx.heap.size:=by omega
     have l5:wr.heap.size<wx.heap.size:=by omega
     have pT:b<wx.heap.size:=by omega
     have nA:∀ (g:bO wx) (p:Addr),p.block<wx.heap.size->g.w.cell? p=wx.cell? p:=λg p h=>g.cell p h;have eL:=jq fR;clear fR tY;have AY:(⟨sd.data.toList,ds[j].n,ds[j].m⟩:Np.Datum)=ds[j]:=by rw[xL.out]
     have rg:=jq AY;clear AY;by_cases sk:Np.kn (Np.bV k) ⟨sd.data.toList,ds[j].n,ds[j].m⟩=true
     ·have lj:=jq sk;clear sk;by_cases jD:j=0
      ·subst jD;refine aMQ ?_
       repeat (go_big_quiet_step ((go_at_call 230;exact Calls.grow_of (Km _ _ _ _ _ _ _ _ _ tV _ _ _ true lj.out))))
       refine wpQuiet_nil ?_;rintro _ ⟨g,rfl⟩;go_wp2_with fail;go_roundw
       case rel=>
        go_light;have h1:=Np.Nf (r:=Np.bV k) (aQ aa) (by rw[<-rg.out];exact lj.out);exact⟨1,aa,by go_num,aO.out.trans ((eL.out.trans (g.below.aKZ)).mono (by simp;omega)),by rw[<-h1];exact HG.out⟩
       case measure=>simp[intOf] <;> omega
      ·obtain⟨i,rfl⟩:∃ i,j=i+1:=⟨j - 1,by omega⟩
       try (exfalso;omega)
       all_goals
        obtain⟨b',o',e',pu,AO,_,nu,sq,kR,Yk,rfl⟩:=xq.out i _ (aQ (by omega))
        cases pu
        have f0:wr.cell? ⟨b,o+i * 3,none⟩=some (.string sq):=nu 0 _ rfl;have f1:wr.cell? ⟨b,o+i * 3+1,none⟩=some (.int .i64 (ds[i]'(by omega)).n):=nu 1 _ rfl;have f2:wr.cell? ⟨b,o+i * 3+2,none⟩=some (.int .i64 (ds[i]'(by omega)).m):=nu 2 _ rfl;have AX:(⟨sq.data.toList,(ds[i]'(by omega)).n,(ds[i]'(by omega)).m⟩:Np.Datum)=ds[i]'(by omega):=by rw[kR]
        have FJ:=jq AX;clear nu kR AX;refine aMQ ?_
        repeat (go_big_quiet_step (first
         | (go_at_call 230;exact Calls.grow_of (Km _ _ _ _ _ _ _ _ _ tV _ _ _ true lj.out))
         | (go_at_call 231;exact Calls.grow_of (Vf _ _ _ _ _ _ _))))
        refine wpQuiet_nil ?_;rintro _ ⟨g,rfl⟩;have h1:=Np.Ng (r:=Np.bV k) (aQ (by omega:i<ds.length)) (aQ aa) (by rw[<-rg.out];exact lj.out);rw[<-rg.out,<-FJ.out] at h1;have H1:=jq h1;clear h1;go_wp2_with fail
        ·go_ret;refine⟨ae ?_,aD.out.trans ((eL.out.trans (g.below.aKZ)).aKZ)⟩;rw[HV.out,HG.out,H1.out,Qc (by omega)]
        ·go_roundw
         case rel=>
          go_light;exact⟨i+1+1,aa,by go_num,aO.out.trans ((eL.out.trans (g.below.aKZ)).mono (by simp;omega)),by rw[HG.out,H1.out,Qb (by omega)]⟩
         case measure=>simp[intOf] <;> omega
     ·have BX:Np.kn (Np.bV k) ⟨sd.data.toList,ds[j].n,ds[j].m⟩=false:=by simpa using sk
      have lj:=jq BX;clear sk BX;refine aMQ ?_
      repeat (go_big_quiet_step ((go_at_call 230;exact Calls.grow_of (Km _ _ _ _ _ _ _ _ _ tV _ _ _ false lj.out))))
      refine wpQuiet_nil ?_;rintro _ ⟨g,rfl⟩;go_wp2_with fail;go_ret;refine⟨ae ?_,aD.out.trans ((eL.out.trans (g.below.aKZ)).aKZ)⟩;rw[HV.out,HG.out,Np.Nd (aQ aa) (by rw[<-rg.out];exact lj.out)]
    ·go_wp2_with fail;go_ret;refine⟨ae ?_,(bW.alloc (by omega) _).trans (aB.mono (by simp;omega))⟩;rw[HV.out,HG.out,List.drop_eq_nil_of_le (by omega)];rfl
 ·have hv:Np.dC ⟨s.data.toList,ty,life,ds⟩=false:=by
   simp only[Np.dC]
   have:(decide (1<=ty)&&decide (ty<=8))=false:=by simp;omega
   rw[this];simp
  have HV:=jq hv;clear hv;have aYQ:(decide (1<=ty)&&decide (ty<=8))=false:=by simp;omega
  go_wp2_with (first
   | (go_at_call 228;refine (Ks _ _ _ _).mono ?_;rintro e w' ⟨rfl,rfl⟩))
  all_goals
   go_ret;exact⟨ae HV.out.symm,bW⟩
def de(_:World)(_:Nat)(e:List Value)(g:Np.Sig):Prop:=∃ s:ByteArray,s.data.toList=g.zone/\s.size<=140737488355328/\e = [.string s,.int .i64 g.key,.int .i64 g.alg,.int .i64 g.frm,.int .i64 g.til,.int .u64 g.sum]
theorem bH:dH de:=λ_ _ _ _ _ h _=>h
theorem cE:eh de:=λ_ _ _ _ _ h _=>h
def cV(W:World)(B:Nat)(e:List Value)(x:Np.Signed):Prop:=∃ (s:ByteArray) (v u:Value),s.data.toList=x.set.name/\s.size<=140737488355328/\SlR cA 3 W B v x.set.data/\SlR de 6 W B u x.sigs/\e = [.string s,.int .i64 x.set.type,.int .i64 x.set.life,v,u]
theorem bU:dH cV:=λ_ _ _ _ _ ⟨s,v,u,h1,h2,h3,h4,h5⟩ hb=>⟨s,v,u,h1,h2,h3.keep bD hb,h4.keep bH hb,h5⟩
theorem fD:eh cV:=λ_ _ _ _ _ ⟨s,v,u,h1,h2,h3,h4,h5⟩ hb=>⟨s,v,u,h1,h2,h3.more bP hb,h4.more cE hb,h5⟩
def Um(W:World)(B:Nat)(e:List Value)(z:Np.Zone):Prop:=∃ (s:ByteArray) (v:Value),s.data.toList=z.apex/\s.size<=140737488355328/\SlR cV 5 W B v z.sets/\e = [.string s,v]
theorem SlR.later{α:Type}{R:aPK α}{sz:Nat}{w w':World}{v:Value}{xs:List α}(hk:dH R)(hm:eh R)(h:SlR R sz w w.heap.size v xs)(hb:Below w.heap.size w w'):SlR R sz w' w'.heap.size v xs:=(h.keep hk hb).more hm hb.size
theorem G8{w:World}{B:Nat}{v:Value}{xs:List Np.Datum}(h:SlR cA 3 w B v xs){k:Nat}{x:Np.Datum}(hx:xs[k]?=some x):∃ (b o c:Nat) (s:ByteArray),v = .slice (some ⟨b,o,none⟩) xs.length c/\b<B/\xs.length<=c/\s.data.toList=x.text/\s.size<=140737488355328/\
 w.cell? ⟨b,o+k * 3,none⟩=some (.string s)/\w.cell? ⟨b,o+k * 3+1,none⟩=some (.int .i64 x.n)/\w.cell? ⟨b,o+k * 3+2,none⟩=some (.int .i64 x.m):=by
 obtain⟨A,c,rfl,hc,_,he⟩:=h;obtain⟨b,o,e,rfl,hb,_,hce,s,h1,h2,rfl⟩:=he k x hx;exact⟨b,o,c,s,rfl,hb,hc,h1,h2,by have:=hce 0 _ rfl;simpa using this,hce 1 _ rfl,hce 2 _ rfl⟩
theorem fE{w:World}{B:Nat}{v:Value}{xs:List Np.Signed}(h:SlR cV 5 w B v xs){k:Nat}{x:Np.Signed}(hx:xs[k]?=some x):∃ (b o c:Nat) (s:ByteArray) (dv sv:Value),v = .slice (some ⟨b,o,none⟩) xs.length c/\b<B/\xs.length<=c/\s.data.toList=x.set.name/\s.size<=140737488355328/\SlR cA 3 w B dv x.set.data/\SlR de 6 w B sv x.sigs/\
 w.cell? ⟨b,o+k * 5,none⟩=some (.string s)/\w.cell? ⟨b,o+k * 5+1,none⟩=some (.int .i64 x.set.type)/\w.cell? ⟨b,o+k * 5+2,none⟩=some (.int .i64 x.set.life)/\w.cell? ⟨b,o+k * 5+3,none⟩=some dv/\w.cell? ⟨b,o+k * 5+4,none⟩=some sv:=by
 obtain⟨A,c,rfl,hc,_,he⟩:=h;obtain⟨b,o,e,rfl,hb,_,hce,s,dv,sv,h1,h2,h3,h4,rfl⟩:=he k x hx;exact⟨b,o,c,s,dv,sv,rfl,hb,hc,h1,h2,h3,h4,by have:=hce 0 _ rfl;simpa using this,hce 1 _ rfl,hce 2 _ rfl,hce 3 _ rfl,hce 4 _ rfl⟩
theorem aj{α:Type}{R:aPK α}{sz:Nat}{w:World}{B:Nat}{v:Value}{xs:List α}(h:SlR R sz w B v xs):∃ A c,v = .slice A xs.length c/\xs.length<=c/\xs.length<=140737488355328:=by
 obtain⟨A,c,h1,h2,h3,_⟩:=h;exact⟨A,c,h1,h2,h3⟩
end
section
open Go.RowKit Go.Shelf
section
variable {α:Type}
def mA(p:α->Bool):List α->Int
 | []=>-1
 | x::xs=>if p x then 0 else if mA p xs = -1 then -1 else mA p xs+1
theorem MZ(p:α->Bool)(xs:List α)(h:∀ x∈xs,p x=false):mA p xs = -1:=by
 induction xs with
 | nil=>rfl
 | cons x r ih=>rw[mA,Qc (by simp[h x (by simp)]),Qb (ih (λy hy=>h y (by simp[hy])))]
theorem MX(p:α->Bool)(xs:List α)(k:Nat)(hk:k<xs.length)(h:∀ x∈xs.take k,p x=false)(hx:p xs[k]=true):mA p xs=k:=by
 induction xs generalizing k with
 | nil=>simp at hk
 | cons x r ih=>
  cases k with
  | zero=>simp at hx;simp[mA,hx]
  | succ k=>
   have h0:p x=false:=h x (by simp)
   have:=ih k (by simpa using hk) (λy hy=>h y (by simp[hy])) (by simpa using hx)
   rw[mA,Qc (by simp[h0]),Qc (by omega),this];simp
theorem MY(p:α->Bool)(xs:List α):decide (0<=mA p xs)=xs.any p:=by
 induction xs with
 | nil=>rfl
 | cons x r ih=>
  rw[mA];by_cases h:p x=true
  ·simp[h]
  ·rw[Qc h];have h':p x=false:=by simpa using h
   rw[List.any_cons,h',Bool.false_or,<-ih];split
   ·rename_i e;rw[e]
   ·rename_i e;have : -1<=mA p r:=by
     clear ih h h' e
     induction r with
     | nil=>simp[mA]
     | cons y r ih2=>rw[mA];split;omega;split <;> omega
    rw[Bool.eq_iff_iff];simp;omega
end
def bA(_:World)(_:Nat)(e:List Value)(x:Np.Span):Prop:=e = [.int .i64 x.frm,.int .i64 x.til]
theorem bE:dH bA:=λ_ _ _ _ _ h _=>h
theorem dP:eh bA:=λ_ _ _ _ _ h _=>h
def Np.il(p:Option Int)(s:Np.Span):Bool:=decide (0<=s.frm)&&(decide (s.frm<s.til)&&(decide (s.til<=20000000)&&(match p with | none=>true | some u=>decide (u<s.frm))))
def Np.iZ:Option Int->List Np.Span->Bool
 | _,[]=>true
 | p,s::r=>Np.il p s&&Np.iZ (some s.til) r
def Np.jp(l:List Np.Span):Bool:=decide (l.length<=20000)&&Np.iZ none l
def Np.kU(l:List Np.Span):Option Int:=l.getLast?.map (·.til)
theorem E4{l:List Np.Span}{k:Nat}{s:Np.Span}(hs:l[k]?=some s)(h:Np.il (Np.kU (l.take k)) s=false):Np.iZ (Np.kU (l.take k)) (l.drop k)=false:=by
 rw[sQ (cQ.1 hs).1,(cQ.1 hs).2];simp[Np.iZ,h]
theorem Q9{l:List Np.Span}{k:Nat}{s:Np.Span}(hs:l[k]?=some s)(h:Np.il (Np.kU (l.take k)) s=true):Np.iZ (Np.kU (l.take k)) (l.drop k)=Np.iZ (Np.kU (l.take (k+1))) (l.drop (k+1)):=by
 have h1:=(cQ.1 hs);rw[sQ h1.1,h1.2,fQ h1.1,h1.2];rw[Np.iZ,h,Bool.true_and];simp[Np.kU]
theorem Zo{l:List Np.Span}{k:Nat}{s:Np.Span}(hs:l[k]?=some s):Np.kU (l.take (k+1))=some s.til:=by
 have h1:=(cQ.1 hs);rw[fQ h1.1,h1.2];simp[Np.kU]
theorem Q6(v:Value)(l:List Np.Span)(w:World)(h:SlR bA 2 w w.heap.size v l) :
 Calls prog 53 #[v] w (aOJ w.heap.size w (.bool (Np.jp l))):=by
 have H:=jq h;obtain⟨A,c,rfl,be,bC,ic⟩:=h;clear ic;by_cases bw:l.length<=20000
 ·have HV:Hid (Np.jp l=Np.iZ none l):=jq (by simp[Np.jp,bw]);go_enter func53,ntmps53;go_wp2_with fail;go_loopw [10] (λi wr=>∃ k:Nat,k<=l.length/\i = .int .i64 k/\Below w.heap.size w wr/\Hid (Np.iZ none l=Np.iZ (Np.kU (l.take k)) (l.drop k))) (λi _=>l.length - (intOf i).toNat)
  case atStart=>exact⟨0,jQ _,rfl,vQ _ _,jq rfl⟩
  case round=>
   obtain⟨k,hk,rfl,hb,HA⟩:=hrel;by_cases aa:k<l.length
   ·obtain⟨A',c',hA',_,_,aY⟩:=H.out.keep bE hb
    cases hA'
    obtain⟨b,o,e,rfl,bB,hlen,hce,hR⟩:=aY k _ (aQ aa);obtain rfl:=hR;have h0:wr.cell? ⟨b,o+k * 2,none⟩=some (.int .i64 l[k].frm):=hce 0 _ rfl;have h1:wr.cell? ⟨b,o+k * 2+1,none⟩=some (.int .i64 l[k].til):=hce 1 _ rfl;have HS:Hid (l[k]?=some l[k]):=jq (aQ aa);have pD:=hb.size;have dl:=jq hb;clear hce hb;have vD:b<wr.heap.size:=by omega
    have mG:(decide (l[k].frm<0)=true)\/(decide (l[k].frm<0)=false/\decide (l[k].til<=l[k].frm)=true)\/(decide (l[k].frm<0)=false/\decide (l[k].til<=l[k].frm)=false/\decide (20000000<l[k].til)=true)\/(decide (l[k].frm<0)=false/\decide (l[k].til<=l[k].frm)=false/\decide (20000000<l[k].til)=false):=by
     simp only[Qa,decide_eq_false_iff_not];omega
    rcases mG with d1 | ⟨d1,d2⟩ | ⟨d1,d2,d3⟩ | ⟨d1,d2,d3⟩
    ·have HX:Hid (Np.il (Np.kU (l.take k)) l[k]=false):=jq (by unfold Np.il;rw[show decide (0<=l[k].frm)=false by simp at d1 |-;omega];rfl);clear aY;go_wp2_with fail;go_quiet (fail);go_wp2_with fail;go_ret;exact⟨ae (by rw[HV.out,HA.out,E4 HS.out HX.out]),below_drewN (dl.out.alloc dl.out.size _) _⟩
    ·have HX:Hid (Np.il (Np.kU (l.take k)) l[k]=false):=jq (by unfold Np.il;rw[show decide (l[k].frm<l[k].til)=false by simp at d2 |-;omega];simp);clear aY;go_wp2_with fail;go_quiet (fail);go_wp2_with fail;go_ret;exact⟨ae (by rw[HV.out,HA.out,E4 HS.out HX.out]),below_drewN (dl.out.alloc dl.out.size _) _⟩
    ·have HX:Hid (Np.il (Np.kU (l.take k)) l[k]=false):=jq (by unfold Np.il;rw[show decide (l[k].til<=20000000)=false by simp at d3 |-;omega];simp);clear aY;go_wp2_with fail;go_quiet (fail);go_wp2_with fail;go_ret;exact⟨ae (by rw[HV.out,HA.out,E4 HS.out HX.out]),below_drewN (dl.out.alloc dl.out.size _) _⟩
    ·have g1:decide (0<=l[k].frm)=true:=by simp at d1 |-;omega
     have g2:decide (l[k].frm<l[k].til)=true:=by simp at d2 |-;omega
     have g3:decide (l[k].til<=20000000)=true:=by simp at d3 |-;omega
     by_cases bF:0<k
     ·obtain⟨m,rfl⟩:∃ m,k=m+1:=⟨k - 1,by omega⟩;obtain⟨b',o',e',hb',_,_,nu,hR'⟩:=aY m _ (aQ (by omega))
      cases hb'
      obtain rfl:=hR';have p1:wr.cell? ⟨b,o+m * 2+1,none⟩=some (.int .i64 (l[m]'(by omega)).til):=nu 1 _ rfl;have DH:Np.kU (l.take (m+1))=some (l[m]'(by omega)).til:=Zo (aQ (by omega));have gU:decide ((0:Int)<((m+1:Nat):Int))=true:=by simp
      have yq:(((m+1:Nat):Int) - 1)=(m:Int):=by omega
      by_cases Eg:l[m+1].frm<=(l[m]'(by omega)).til
      ·have d4:decide (l[m+1].frm<=(l[m]'(by omega)).til)=true:=by simpa using Eg
       have HX:Hid (Np.il (Np.kU (l.take (m+1))) l[m+1]=false):=jq (by rw[DH];simp only[Np.il,g1,g2,g3,Bool.true_and];simp;omega);clear aY nu DH Eg g1 g2 g3;go_wp2_with fail;go_quiet (fail);go_wp2_with fail;go_ret;exact⟨ae (by rw[HV.out,HA.out,E4 HS.out HX.out]),below_drewN (dl.out.alloc dl.out.size _) _⟩
      ·have d4:decide (l[m+1].frm<=(l[m]'(by omega)).til)=false:=by simpa using Eg
       have HX:Hid (Np.il (Np.kU (l.take (m+1))) l[m+1]=true):=jq (by rw[DH];simp only[Np.il,g1,g2,g3,Bool.true_and];simp;omega);clear aY nu DH Eg g1 g2 g3;go_wp2_with fail;go_quiet (fail);go_wp2_with fail;go_roundw
       case rel=>exact⟨m+1+1,by omega,by go_num,below_drewN (dl.out.alloc dl.out.size _) _,jq (by rw[HA.out,Q9 HS.out HX.out])⟩
       case measure=>simp[intOf] <;> omega
     ·have hz:k=0:=by omega
      have HX:Hid (Np.il (Np.kU (l.take k)) l[k]=true):=jq (by
       have:Np.kU (l.take k)=none:=by rw[hz];rfl
       rw[this];simp only[Np.il,g1,g2,g3,Bool.true_and])
      have gU:decide ((0:Int)<(k:Int))=false:=by simp;omega
      have iz:decide (0<k)=false:=by simp;omega
      clear aY hz bF g1 g2 g3;go_wp2_with fail;go_quiet (fail);go_wp2_with fail;go_roundw
      case rel=>exact⟨k+1,by omega,by go_num,below_drewN (dl.out.alloc dl.out.size _) _,jq (by rw[HA.out,Q9 HS.out HX.out])⟩
      case measure=>simp[intOf] <;> omega
   ·go_wp2_with fail;go_ret;refine⟨ae ?_,hb⟩;rw[HV.out,HA.out,List.drop_of_length_le (by omega)];rfl
 ·have aKK:20000<l.length:=by omega
  clear bw;go_enter func53,ntmps53;go_wp2_with fail;go_ret;exact⟨ae (by simp[Np.jp];omega),vQ _ _⟩
end
section
open Go.ChangeShapes Go.WideShapes Go.ChangeAt Go.RowKit
theorem Na:prog.globalNamed "nameplan/record.rules" = some 0:=by kernel_rfl
theorem Wc:(prog.globals[0]?).map (·.type)=some 284:=by kernel_rfl
theorem UX:prog.cellsOf 283=8:=by kernel_rfl
theorem je:prog.cellsOf 3=1:=by kernel_rfl
theorem G4:prog.cellsOf 4=1:=by kernel_rfl
def oB:Value->DataW Unit
 | .int k n=>.lit (.int k n)
 | .bool b=>.lit (.bool b)
 | _=>.nil
theorem Zi:(Rows.laid_nameplan_record_rules:DataW Unit) = .agg ((List.range 9).map λ(k:Nat)=>.agg ((jo (Np.bV k)).toList.map oB)):=by
 rfl
section
variable {w:World} {base:Nat} {spare:Nat->Bool} {held:Bool} {fuel:Nat} {cs:List Value} {p:List MemPlace}
theorem B8{n:Int}(h:DataW.trod (λ_=>()) prog w base spare held fuel 3 cs=some (oB (.int .i64 n),p)):cs = [.int .i64 n]:=by
 obtain⟨m,rfl,hx,_⟩:=DataW.trod_int underlying3 h;simp only[oB,Prod.mk.injEq,DataW.lit.injEq,Lit.int.injEq] at hx;rw[hx.1.2]
theorem JM{b:Bool}(h:DataW.trod (λ_=>()) prog w base spare held fuel 4 cs=some (oB (.bool b),p)):cs = [.bool b]:=by
 obtain⟨m,rfl,hx⟩:=DataW.trod_bool underlying4 h;simp only[oB,Prod.mk.injEq,DataW.lit.injEq,Lit.bool.injEq] at hx;rw[hx.1]
theorem tk{cs:List Value}{o:Nat}{v:Value}(h:(cs.drop o).take 1 = [v]):cs[o]?=some v:=by
 have:=Qd (·[0]?) h
 simpa [List.getElem?_take,List.getElem?_drop] using this
theorem QL{r:Np.Rule}(h:DataW.trod (λ_=>()) prog w base spare held fuel 283 cs=some (.agg ((jo r).toList.map oB),p)):∀ (j:Nat) (v:Value),(jo r).toList[j]?=some v->cs[j]?=some v:=by
 obtain⟨ys,n,_,hx,_,hlen,hf⟩:=DataW.trod_struct underlying283 h;simp only[Prod.mk.injEq,DataW.agg.injEq] at hx;have hy:∀ (j:Nat) (v:Value),(jo r).toList[j]?=some v->∃ q,ys[j]?=some (oB v,q):=λj v hj=>by
  have h1:(ys.map (·.1))[j]?=some (oB v):=by rw[<-hx.1];simp[hj]
  simp only[List.getElem?_map,Option.map_eq_some_iff] at h1;obtain⟨y,sB,pU⟩:=h1;exact⟨y.2,by rw[sB,<-pU]⟩
 intro j v hj;obtain⟨q,hq⟩:=hy j v hj
 match j,hj,hq with
 | 0,hj,hq=>simp[jo] at hj;subst hj;have:DataW.trod (λ_=>()) prog w base spare held n 3 ((cs.drop 0).take (prog.cellsOf 3))=ys[0]?:=hf 0 _ rfl;rw[hq,je] at this;exact tk (B8 this)
 | 1,hj,hq=>simp[jo] at hj;subst hj;have:DataW.trod (λ_=>()) prog w base spare held n 3 ((cs.drop 1).take (prog.cellsOf 3))=ys[1]?:=hf 1 _ rfl;rw[hq,je] at this;exact tk (B8 this)
 | 2,hj,hq=>simp[jo] at hj;subst hj;have:DataW.trod (λ_=>()) prog w base spare held n 3 ((cs.drop 2).take (prog.cellsOf 3))=ys[2]?:=hf 2 _ rfl;rw[hq,je] at this;exact tk (B8 this)
 | 3,hj,hq=>simp[jo] at hj;subst hj;have:DataW.trod (λ_=>()) prog w base spare held n 3 ((cs.drop 3).take (prog.cellsOf 3))=ys[3]?:=hf 3 _ rfl;rw[hq,je] at this;exact tk (B8 this)
 | 4,hj,hq=>simp[jo] at hj;subst hj;have:DataW.trod (λ_=>()) prog w base spare held n 3 ((cs.drop 4).take (prog.cellsOf 3))=ys[4]?:=hf 4 _ rfl;rw[hq,je] at this;exact tk (B8 this)
 | 5,hj,hq=>simp[jo] at hj;subst hj;have:DataW.trod (λ_=>()) prog w base spare held n 4 ((cs.drop 5).take (prog.cellsOf 4))=ys[5]?:=hf 5 _ rfl;rw[hq,G4] at this;exact tk (JM this)
 | 6,hj,hq=>simp[jo] at hj;subst hj;have:DataW.trod (λ_=>()) prog w base spare held n 4 ((cs.drop 6).take (prog.cellsOf 4))=ys[6]?:=hf 6 _ rfl;rw[hq,G4] at this;exact tk (JM this)
 | 7,hj,hq=>simp[jo] at hj;subst hj;have:DataW.trod (λ_=>()) prog w base spare held n 4 ((cs.drop 7).take (prog.cellsOf 4))=ys[7]?:=hf 7 _ rfl;rw[hq,G4] at this;exact tk (JM this)
 | j+8,hj,_=>simp[jo] at hj
end
theorem apX{W:World}{rest:List (String×DataW Unit)}(h:laidMet prog (("nameplan/record.rules",Rows.laid_nameplan_record_rules)::rest) W):iv W W.heap.size:=by
 obtain⟨ps,⟨g',t',cs,fuel,p,q,hg',ht',Yu,hd,_,_⟩,_⟩:=h;obtain rfl:=Option.some.inj (Na.symm.trans hg');obtain rfl:=Option.some.inj (Wc.symm.trans ht');rw[Zi] at hd;obtain⟨xs,m,_,hx,_,hlen,hf⟩:=DataW.trod_array underlying284 hd;simp only[Prod.mk.injEq,DataW.agg.injEq] at hx;have hcell:∀ (i:Nat) (v:Value),cs[i]?=some v->W.cell? ⟨0,i,none⟩=some v:=λi v hi=>by rw[World.var?_cell Na Yu i];exact hi
 refine⟨?_,λk hk j v hj=>?_⟩
 ·have h0:=hf 0 (by omega);obtain⟨x0,cK⟩:∃ x,xs[0]?=some x:=⟨_,aQ (by omega)⟩;rw[cK] at h0;have h1:x0.1 = .agg ((jo (Np.bV (0:Nat))).toList.map oB):=by
   have:(xs.map (·.1))[0]?=some (.agg ((jo (Np.bV (0:Nat))).toList.map oB)):=by rw[<-hx.1];rfl
   rw[List.getElem?_map,cK] at this;simpa using this
  rw[show x0=(x0.1,x0.2) from rfl,h1] at h0;have h2:=QL h0 0 _ rfl;simp only[Nat.zero_mul,List.drop_zero,List.getElem?_take] at h2;split at h2
  ·exact World.block_lt_of_cell? _ _ (hcell 0 _ (by simpa using h2))
  ·cases h2
 ·have h0:=hf k hk;obtain⟨x0,cK⟩:∃ x,xs[k]?=some x:=⟨_,aQ (by omega)⟩;rw[cK] at h0;have h1:x0.1 = .agg ((jo (Np.bV k)).toList.map oB):=by
   have:(xs.map (·.1))[k]?=some (.agg ((jo (Np.bV k)).toList.map oB)):=by rw[<-hx.1,List.getElem?_map,List.getElem?_range hk];rfl
   rw[List.getElem?_map,cK] at this;simpa using this
  rw[show x0=(x0.1,x0.2) from rfl,h1] at h0;have h2:=QL h0 j v hj;rw[UX,List.getElem?_take] at h2;split at h2
  ·rw[List.getElem?_drop] at h2;exact hcell _ _ (by simpa using h2)
  ·cases h2
end
section
open Go.RowKit
variable {α:Type}
def Md(R:aPK α)(B:Nat)(w:World)(f:FuncId)(cap:Array Value)(p:α->Bool)(xs:List α):Prop:=
 ∀ (W:World) (x:α) (e0 e1 e2 e3 e4 e5:Value),x∈xs->Below B w W->B<=W.heap.size->R W B [e0,e1,e2,e3,e4,e5] x->Calls prog f (#[.agg #[e0,e1,e2,e3,e4,e5]]++cap) W λe w'=>e = .returned (.bool (p x))/\Below W.heap.size W w'
theorem YQ{R:aPK α}(hK:dH R)(f:FuncId)(eg:∀ args w,(callFunc f args).run prog w = .ok (.enter f args) w)(cap:Array Value)(p:α->Bool)(v:Value)(xs:List α)(w:World)(B:Nat)(hB:B<=w.heap.size)(h:SlR R 6 w B v xs)
 (hp:Md R B w f cap p xs) :
 Calls prog 232 #[v,.func (.func f) #[] cap] w (aOJ w.heap.size w (.int .i64 (mA p xs))):=by
 have H:=jq h;have HP:=jq hp;obtain⟨A,c,rfl,be,bC,ic⟩:=h;clear ic hp;go_enter func232,ntmps232;go_wp2_with fail;go_loopw [8] (λi wr=>∃ k:Nat,k<=xs.length/\i = .int .i64 k/\Below w.heap.size w wr/\Hid (∀ x∈xs.take k,p x=false)) (λi _=>xs.length - (intOf i).toNat)
 case atStart=>exact⟨0,jQ _,rfl,vQ _ _,jq (by simp)⟩
 case round=>
  obtain⟨k,hk,rfl,hb,HA⟩:=hrel;by_cases aa:k<xs.length
  ·have bj:=hb.mono hB;obtain⟨A',c',hA',_,_,aY⟩:=H.out.keep hK bj
   cases hA'
   obtain⟨b,o,e,rfl,bB,hlen,hce,hR⟩:=aY k _ (aQ aa)
   match e,hlen with
   | [e0,e1,e2,e3,e4,e5],_=>
   have h0:wr.cell? ⟨b,o+k * 6,none⟩=some e0:=hce 0 _ rfl;have h1:wr.cell? ⟨b,o+k * 6+1,none⟩=some e1:=hce 1 _ rfl;have h2:wr.cell? ⟨b,o+k * 6+2,none⟩=some e2:=hce 2 _ rfl;have h3:wr.cell? ⟨b,o+k * 6+3,none⟩=some e3:=hce 3 _ rfl;have h4:wr.cell? ⟨b,o+k * 6+4,none⟩=some e4:=hce 4 _ rfl;have h5:wr.cell? ⟨b,o+k * 6+5,none⟩=some e5:=hce 5 _ rfl;have cB:=HP.out wr xs[k] e0 e1 e2 e3 e4 e5 (List.getElem_mem aa) bj (by have:=hb.size;omega) hR;have HC:=jq cB;have dl:=jq hb;clear aY hce hR cB bj hb;go_wp2_with (fail);refine HC.out.mono ?_;rintro e w2 ⟨rfl,ac⟩;have ah:=jq ac;clear ac;by_cases bg:p xs[k]=true
   ·have HX:=jq bg;go_wp2_with (fail);go_ret;exact⟨jK (MX p xs k aa HA.out HX.out).symm,dl.out.trans (ah.out.mono dl.out.size)⟩
   ·have Ef:p xs[k]=false:=by simpa using bg
    have HX:=jq Ef;clear bg;go_wp2_with (fail);go_roundw
    case rel=>
     refine⟨k+1,by omega,by go_num,dl.out.trans (ah.out.mono dl.out.size),jq ?_⟩;rw[fQ aa];intro x hx;rcases List.mem_append.1 hx with h | h
     ·exact HA.out x h
     ·simp at h;subst h;exact HX.out
    case measure=>simp[intOf] <;> omega
  ·go_wp2_with fail;go_ret;exact⟨jK (MZ p xs (by have:=HA.out;rwa [kQ (by omega)] at this)).symm,hb⟩
theorem Vh{R:aPK α}(hK:dH R)(f:FuncId)(eg:∀ args w,(callFunc f args).run prog w = .ok (.enter f args) w)(cap:Array Value)(p:α->Bool)(v:Value)(xs:List α)(w:World)(B:Nat)(hB:B<=w.heap.size)(h:SlR R 6 w B v xs)
 (hp:Md R B w f cap p xs) :
 Calls prog 153 #[v,.func (.func f) #[] cap] w (aOJ w.heap.size w (.bool (xs.any p))):=by
 have H:=jq h;have HP:=jq hp;have HE:=jq eg;clear h hp eg;go_enter func153,ntmps153;go_wp2_with (go_at_call 232;refine (YQ hK f HE.out cap p v xs w B hB H.out HP.out).mono ?_;rintro e w' ⟨rfl,hb⟩);go_ret;exact⟨ae (MY p xs),hb⟩
end
section
open Go.RowKit Go.Shelf
theorem mw(v l m:Int)(w:World) :
 Calls prog 79 #[.agg #[.int .i64 v,.int .i64 l,.int .i64 m]] w (aOJ w.heap.size w (.bool (decide (l<=v)&&decide (v<=m)))):=by
 by_cases h1:l<=v
 all_goals
  go_enter func79,ntmps79;go_wp2;go_ret;exact⟨ae (by simp;omega),(vQ _ _).alloc (bQ _) _⟩
theorem abY(b1 b2:Nat)(f t:Int)(w:World)(h1:w.cell? ⟨b1,0,none⟩=some (.int .i64 f))(h2:w.cell? ⟨b2,0,none⟩=some (.int .i64 t))(aq:b1<w.heap.size)(ac:b2<w.heap.size)(e0 e1 e2 e5:Value)(x y:Int) :
 Calls prog 154 #[.agg #[e0,e1,e2,.int .i64 x,.int .i64 y,e5],.pointer (some ⟨b1,0,none⟩),.pointer (some ⟨b2,0,none⟩)] w (aOJ w.heap.size w (.bool ((x != f)||(y != t)))):=by
 go_enter func154,ntmps154;go_wp2
 all_goals
  go_ret;go_light;refine⟨ae ?_,(vQ _ _).alloc (bQ _) _⟩;simp_all
theorem acQ(s:ByteArray)(hs:s.size<=140737488355328)(ty life:Int)(v u:Value)(ds:List Np.Datum)(gs:List Np.Sig)(w:World)(hR:iv w w.heap.size)(hd:SlR cA 3 w w.heap.size v ds)(hg:SlR de 6 w w.heap.size u gs) :
 Calls prog 80 #[.agg #[.string s,.int .i64 ty,.int .i64 life,v,u]] w
  λe w'=>e = .returned (.bool (Np.plain ⟨⟨s.data.toList,ty,life,ds⟩,gs⟩))/\Below w.heap.size w w':=by
 have HR:=jq hR;have HD:=jq hd;have HG:=jq hg;obtain⟨A,c,rfl,be,bC,ic⟩:=hd;obtain⟨A2,c2,rfl,dV,dJ,ie⟩:=hg;clear hR ic ie;go_enter func80,ntmps80;go_wp2_with fail;refine (JT s hs ty life _ ds _ ?_ ?_).mono ?_
 ·exact (HR.out.keep ((vQ _ w).alloc (bQ _) _)).more (by simp)
 ·exact (HD.out.keep bD ((vQ _ w).alloc (bQ _) _)).more bP (by simp)
 rintro e w1 ⟨rfl,hb⟩;have bW:Below w.heap.size w w1:=((vQ _ w).alloc (bQ _) _).trans (hb.mono (by simp));have cI:w.heap.size<w1.heap.size:=by have:=hb.size;simp at this;omega
 have c4:w1.cell? ⟨w.heap.size,4,none⟩=some (.slice A2 gs.length c2):=by rw[hb.cell (by simp)];go_simp
 clear hb;by_cases hne:gs = []
 ·subst hne;go_wp2_with fail
  all_goals
   go_ret;go_light;refine⟨ae ?_,bW⟩;simp_all [Np.plain,Np.l6]
 ·obtain⟨g,gr,rfl⟩:∃ g gr,gs=g::gr:=List.exists_cons_of_ne_nil hne;obtain⟨A',c',hA',_,_,aY⟩:=HG.out.keep bH bW
  cases hA'
  obtain⟨b,o,e,rfl,bj,_,hce,zs,kg,YM,rfl⟩:=aY 0 g rfl;have e3:w1.cell? ⟨b,o+3,none⟩=some (.int .i64 g.frm):=by have:=hce 3 _ rfl;simpa using this
  have e4:w1.cell? ⟨b,o+4,none⟩=some (.int .i64 g.til):=by have:=hce 4 _ rfl;simpa using this
  have bB:b<w1.heap.size:=by omega
  clear hce aY hne kg;go_wp2_with fail
  ·go_ret;go_light;refine⟨ae ?_,bW⟩;simp_all [Np.plain]
  ·go_ret;go_light;refine⟨ae ?_,bW⟩;have h6:¬ gr.length+1<=6:=by omega
   simp[Np.plain,h6]
  ·have Io:¬ b=w1.heap.size:=by omega
   have aNZ:¬ w.heap.size=w1.heap.size:=by omega
   have aNJ:¬ b=w1.heap.size+1:=by omega
   have aNK:¬ w.heap.size=w1.heap.size+1:=by omega
   go_region
   all_goals
    go_wp2_with fail
    ·go_ret;go_light;refine⟨ae ?_,Below.drew ((bW.alloc (by omega) _).alloc (by simp;omega) _)⟩;simp_all [Np.plain,Np.l6]
    ·go_ret;go_light;refine⟨ae ?_,Below.drew ((bW.alloc (by omega) _).alloc (by simp;omega) _)⟩;simp_all [Np.plain,Np.l6]
    ·go_ret;go_light;refine⟨ae ?_,Below.drew ((bW.alloc (by omega) _).alloc (by simp;omega) _)⟩;simp_all [Np.plain,Np.l6]
    ·have h1:g.til<=20000000:=by assumption
     have h2:0<=g.frm:=by assumption
     have h3:g.frm<=g.til:=by assumption
     have h4:Np.dC ⟨s.data.toList,ty,life,ds⟩=true:=by assumption
     have h5:(gr.length:Int)+1<=6:=by assumption
     have tz:Np.plain ⟨⟨s.data.toList,ty,life,ds⟩,g::gr⟩=!((g::gr).any (Np.wI g)):=by
      go_light;have h6:gr.length+1<=6:=by omega
      have a1:¬ g.frm<0:=by omega
      have a2:¬ g.til<g.frm:=by omega
      have a3:¬ 20000000<g.til:=by omega
      simp[Np.plain,Np.l6,h4,h6,a1,a2,a3]
     have HF:=jq tz;clear tz;refine (Vh (R:=de) bH 154 (enters_of func154 (by kernel_rfl) rfl) _ (Np.wI g) _ (g::gr) _ _ (bQ _) ?_ ?_).mono ?_
     ·exact (HG.out.keep bH (Below.drew ((bW.alloc (by omega) _).alloc (by simp;omega) _))).more cE (by simp;omega)
     ·intro W x e0 e1 e2 e3 e4 e5 hx hW vq Ic;obtain⟨zz,_,_,NZ⟩:=Ic;simp only[List.cons.injEq,and_true] at NZ;obtain⟨rfl,rfl,rfl,rfl,rfl,rfl⟩:=NZ;refine (abY _ _ g.frm g.til W ?_ ?_ ?_ ?_ _ _ _ _ _ _)
      ·rw[hW.cell (by simp <;> omega)];go_simp
      ·rw[hW.cell (by simp <;> omega)];go_simp
      ·simp at vq;omega
      ·simp at vq;omega
     ·rintro e w2 ⟨rfl,ac⟩;go_wp2_with fail;go_ret;exact⟨ae (by rw[HF.out];simp),(Below.drew ((bW.alloc (by omega) _).alloc (by simp;omega) _)).trans (ac.mono (by simp;omega))⟩
def xe{α:Type}(R:aPK α)(sz:Nat)(w:World)(l:List α)(err:Int)(e:Ending)(w':World):Prop:=
 ∃ x,e = .returned (.tuple #[x,.int .i64 err])/\SlR R sz w' w'.heap.size x l/\Below w.heap.size w w'
theorem J2{α:Type}{R:aPK α}{sz:Nat}(w:World)(B:Nat):SlR R sz w B (.slice none 0 0) []:=⟨none,0,rfl,by simp,by simp,λi x h=>by simp at h⟩
theorem awZ{s:Np.Signed}{drift stop:Int}(he:Np.fW s drift stop=0)(h:Np.oX s drift stop<=Np.oW s drift):Np.fV s drift stop = []:=by
 unfold Np.fV;rw[Qb he,Qb h]
theorem Rf{s:Np.Signed}{drift stop a b:Int}(he:Np.fW s drift stop=0)(h:a<b)(ha:Np.oW s drift=a)(hb:Np.oX s drift stop=b):Np.fV s drift stop = [⟨a,b⟩]:=by
 unfold Np.fV;rw[Qb he,ha,hb,Qc (by omega)]
theorem lv{α:Type}{R:aPK α}{sz:Nat}{w w':World}{l:List α}{err n:Int}(hb:Below w.heap.size w w')(hl:l = [])(he:err=n):xe R sz w l err (.returned (.tuple #[.slice none 0 0,.int .i64 n])) w':=
 ⟨_,by rw[he],by rw[hl];exact J2 _ _,hb⟩
theorem Hk{w w1:World}{l:List Np.Span}{err:Int}{a b:Int}{t:TypeId}(hb:Below w.heap.size w w1)(hl:l = [⟨a,b⟩])(he:err=0) :
 xe bA 2 w l err (.returned (.tuple #[.slice (some ⟨w1.heap.size,0,none⟩) 1 1,.int .i64 0])) (w1.alloc (.cells #[.int .i64 a,.int .i64 b] t)):=by
 refine⟨_,by rw[he],?_,hb.alloc hb.size _⟩;subst hl;refine⟨_,1,rfl,by simp,by simp,λi x hx=>?_⟩
 match i,hx with
 | 0,hx=>
  simp at hx;subst hx;refine⟨w1.heap.size,0,[.int .i64 a,.int .i64 b],rfl,by simp,rfl,λj v hj=>?_,rfl⟩
  have:=World.cell?_alloc_new w1 #[.int .i64 a,.int .i64 b] t j
  simp only[Nat.zero_add,Nat.zero_mul];rw[this,<-hj];simp
 | i+1,hx=>simp at hx
theorem Cn(s:ByteArray)(hs:s.size<=140737488355328)(ty life:Int)(v u:Value)(ds:List Np.Datum)(gs:List Np.Sig)(drift stop:Int)(w:World)(hR:iv w w.heap.size)(hd:SlR cA 3 w w.heap.size v ds)(hg:SlR de 6 w w.heap.size u gs) :
 Calls prog 37 #[.agg #[.string s,.int .i64 ty,.int .i64 life,v,u],.int .i64 drift,.int .i64 stop] w
  (xe bA 2 w (Np.fV ⟨⟨s.data.toList,ty,life,ds⟩,gs⟩ drift stop) (Np.fW ⟨⟨s.data.toList,ty,life,ds⟩,gs⟩ drift stop)):=by
 have HR:=jq hR;have HD:=jq hd;have HG:=jq hg;obtain⟨A,c,rfl,be,bC,ic⟩:=hd;obtain⟨A2,c2,rfl,dV,dJ,ie⟩:=hg;clear hR ic ie;have i0:∀ w,(Instr.index 143 (.agg #[.int .i64 drift,.int .i64 0,.int .i64 1000,.int .i64 stop,.int .i64 1,.int .i64 20000000]) (.int .i64 0)).run prog w = .ok (.agg #[.int .i64 drift,.int .i64 0,.int .i64 1000]) w:=λ_=>by kernel_rfl
 have i1:∀ w,(Instr.index 143 (.agg #[.int .i64 drift,.int .i64 0,.int .i64 1000,.int .i64 stop,.int .i64 1,.int .i64 20000000]) (.int .i64 1)).run prog w = .ok (.agg #[.int .i64 stop,.int .i64 1,.int .i64 20000000]) w:=λ_=>by kernel_rfl
 go_enter func37,ntmps37;go_wp2_with fail;have c0:((w.alloc (.cells #[.string s,.int .i64 ty,.int .i64 life,.slice A ds.length c,.slice A2 gs.length c2] 42)).alloc (.cells #[.int .i64 drift,.int .i64 0,.int .i64 1000,.int .i64 stop,.int .i64 1,.int .i64 20000000] 143)).cell? ⟨w.heap.size,0,none⟩=some (.string s):=by go_simp
 have c1:((w.alloc (.cells #[.string s,.int .i64 ty,.int .i64 life,.slice A ds.length c,.slice A2 gs.length c2] 42)).alloc (.cells #[.int .i64 drift,.int .i64 0,.int .i64 1000,.int .i64 stop,.int .i64 1,.int .i64 20000000] 143)).cell? ⟨w.heap.size,1,none⟩=some (.int .i64 ty):=by go_simp
 have c2':((w.alloc (.cells #[.string s,.int .i64 ty,.int .i64 life,.slice A ds.length c,.slice A2 gs.length c2] 42)).alloc (.cells #[.int .i64 drift,.int .i64 0,.int .i64 1000,.int .i64 stop,.int .i64 1,.int .i64 20000000] 143)).cell? ⟨w.heap.size,2,none⟩=some (.int .i64 life):=by go_simp
 have c3:((w.alloc (.cells #[.string s,.int .i64 ty,.int .i64 life,.slice A ds.length c,.slice A2 gs.length c2] 42)).alloc (.cells #[.int .i64 drift,.int .i64 0,.int .i64 1000,.int .i64 stop,.int .i64 1,.int .i64 20000000] 143)).cell? ⟨w.heap.size,3,none⟩=some (.slice A ds.length c):=by go_simp
 have c4:((w.alloc (.cells #[.string s,.int .i64 ty,.int .i64 life,.slice A ds.length c,.slice A2 gs.length c2] 42)).alloc (.cells #[.int .i64 drift,.int .i64 0,.int .i64 1000,.int .i64 stop,.int .i64 1,.int .i64 20000000] 143)).cell? ⟨w.heap.size,4,none⟩=some (.slice A2 gs.length c2):=by go_simp
 have vC:Below w.heap.size w ((w.alloc (.cells #[.string s,.int .i64 ty,.int .i64 life,.slice A ds.length c,.slice A2 gs.length c2] 42)).alloc (.cells #[.int .i64 drift,.int .i64 0,.int .i64 1000,.int .i64 stop,.int .i64 1,.int .i64 20000000] 143)):=((vQ _ w).alloc (bQ _) _).alloc (by simp) _;have tS:w.heap.size<((w.alloc (.cells #[.string s,.int .i64 ty,.int .i64 life,.slice A ds.length c,.slice A2 gs.length c2] 42)).alloc (.cells #[.int .i64 drift,.int .i64 0,.int .i64 1000,.int .i64 stop,.int .i64 1,.int .i64 20000000] 143)).heap.size:=by simp;omega
 generalize (w.alloc (.cells #[.string s,.int .i64 ty,.int .i64 life,.slice A ds.length c,.slice A2 gs.length c2] 42)).alloc (.cells #[.int .i64 drift,.int .i64 0,.int .i64 1000,.int .i64 stop,.int .i64 1,.int .i64 20000000] 143)=W0 at c0 c1 c2' c3 c4 vC tS |-;have HW:=jq vC;clear vC;go_loopw [19] (λi wr=>∃ k:Nat,k<=2/\i = .int .i64 k/\Below W0.heap.size W0 wr/\(1<=k->0<=drift/\drift<=1000)/\(2<=k->1<=stop/\stop<=20000000)) (λi _=>2 - (intOf i).toNat)
 case atStart=>exact⟨0,by omega,rfl,vQ _ _,by omega,by omega⟩
 case round=>
  obtain⟨k,hk,rfl,bR,h1,h2⟩:=hrel;have HB:=jq bR;have lX:=bR.size;have H1:=jq h1;have H2:=jq h2;clear h1 h2 bR;rcases (by omega:k=0\/k=1\/k=2) with rfl | rfl | rfl
  ·by_cases hd:0<=drift/\drift<=1000
   ·go_wp2_with (go_at_call 79;refine (mw _ _ _ _).mono ?_;rintro e w' ⟨rfl,hb⟩);go_roundw
    case rel=>exact⟨1,by omega,rfl,HB.out.trans (((vQ _ wr).alloc (bQ _) _).trans (hb.mono (by simp)) |>.mono lX),λ_=>hd,by omega⟩
    case measure=>simp[intOf] <;> omega
   ·have hd':(decide (0<=drift)&&decide (drift<=1000))=false:=by simp;omega
    go_wp2_with (go_at_call 79;refine (mw _ _ _ _).mono ?_;rintro e w' ⟨rfl,hb⟩)
    all_goals first
     | (go_ret2
        have he:Np.fW ⟨⟨s.data.toList,ty,life,ds⟩,gs⟩ drift stop=1:=by rw[Np.fW,Qc (by omega)]
        exact lv (HW.out.trans ((HB.out.trans (((vQ _ wr).alloc (bQ _) _).trans (hb.mono (by simp)) |>.mono lX)).aKZ)) (by rw[Np.fV,he];rfl) he)
     | (exfalso;omega)
  ·by_cases hd:1<=stop/\stop<=20000000
   ·go_wp2_with (go_at_call 79;refine (mw _ _ _ _).mono ?_;rintro e w' ⟨rfl,hb⟩);go_roundw
    case rel=>exact⟨2,by omega,rfl,HB.out.trans (((vQ _ wr).alloc (bQ _) _).trans (hb.mono (by simp)) |>.mono lX),λ_=>H1.out (by omega),λ_=>hd⟩
    case measure=>simp[intOf] <;> omega
   ·have hd':(decide (1<=stop)&&decide (stop<=20000000))=false:=by simp;omega
    go_wp2_with (go_at_call 79;refine (mw _ _ _ _).mono ?_;rintro e w' ⟨rfl,hb⟩)
    all_goals first
     | (go_ret2
        have he:Np.fW ⟨⟨s.data.toList,ty,life,ds⟩,gs⟩ drift stop=1:=by rw[Np.fW,Qc (by omega)]
        exact lv (HW.out.trans ((HB.out.trans (((vQ _ wr).alloc (bQ _) _).trans (hb.mono (by simp)) |>.mono lX)).aKZ)) (by rw[Np.fV,he];rfl) he)
     | (exfalso;omega)
  ·obtain⟨eU,fS⟩:=H1.out (by omega);obtain⟨bh,cJ⟩:=H2.out (by omega);have d0:wr.cell? ⟨w.heap.size,0,none⟩=some (.string s):=(HB.out.cell tS).trans c0;have d1:wr.cell? ⟨w.heap.size,1,none⟩=some (.int .i64 ty):=(HB.out.cell tS).trans c1;have d2:wr.cell? ⟨w.heap.size,2,none⟩=some (.int .i64 life):=(HB.out.cell tS).trans c2';have d3:wr.cell? ⟨w.heap.size,3,none⟩=some (.slice A ds.length c):=(HB.out.cell tS).trans c3;have d4:wr.cell? ⟨w.heap.size,4,none⟩=some (.slice A2 gs.length c2):=(HB.out.cell tS).trans c4;have AT:Below w.heap.size w wr:=HW.out.trans (HB.out.aKZ);clear c0 c1 c2' c3 c4;go_wp2_with fail;refine (acQ s hs ty life _ _ ds gs _ ?_ ?_ ?_).mono ?_
   ·exact (HR.out.keep AT).more (by omega)
   ·exact (HD.out.keep bD AT).more bP (by omega)
   ·exact (HG.out.keep bH AT).more cE (by omega)
   rintro e w1 ⟨rfl,hb⟩;have aXZ:=hb.size;have vF:Below w.heap.size w w1:=AT.trans (hb.aKZ);have f4:w1.cell? ⟨w.heap.size,4,none⟩=some (.slice A2 gs.length c2):=(hb.cell (by simp;omega)).trans d4;have aO:=jq vF;clear hb AT d0 d1 d2 d3 d4 vF;by_cases hp:Np.plain ⟨⟨s.data.toList,ty,life,ds⟩,gs⟩=true
   ·have he:Np.fW ⟨⟨s.data.toList,ty,life,ds⟩,gs⟩ drift stop=0:=by rw[Np.fW,Qb ⟨eU,fS,bh,cJ,hp⟩]
    have HE:=jq he;clear he;by_cases hne:gs = []
    ·subst hne;go_wp2_with fail;go_ret2;exact Hk aO.out (Rf HE.out (by omega) rfl rfl) HE.out
    ·obtain⟨g,gr,rfl⟩:∃ g gr,gs=g::gr:=List.exists_cons_of_ne_nil hne;obtain⟨A',c',hA',_,_,aY⟩:=HG.out.keep bH aO.out
     cases hA'
     obtain⟨b,o,e,rfl,bj,_,hce,zs,kg,YM,rfl⟩:=aY 0 g rfl;have e3:w1.cell? ⟨b,o+3,none⟩=some (.int .i64 g.frm):=by have:=hce 3 _ rfl;simpa using this
     have e4:w1.cell? ⟨b,o+4,none⟩=some (.int .i64 g.til):=by have:=hce 4 _ rfl;simpa using this
     have fz:Np.l6 (g::gr)=true:=by
      simp only[Np.plain,Bool.and_eq_true] at hp;exact hp.2
     have dO:0<=g.frm/\g.frm<=g.til/\g.til<=20000000:=by
      simp only[Np.l6,Bool.and_eq_true,Bool.not_eq_true',Bool.or_eq_false_iff,decide_eq_false_iff_not] at fz;omega
     obtain⟨oI,pE,pF⟩:=dO;clear hce aY hne kg fz;have hf:Np.oW ⟨⟨s.data.toList,ty,life,ds⟩,g::gr⟩ drift=g.frm+drift:=rfl;have ht:Np.oX ⟨⟨s.data.toList,ty,life,ds⟩,g::gr⟩ drift stop=min stop (g.til - drift+1):=rfl;have HF:=jq hf;have HT:=jq ht;clear hf ht;by_cases hm:g.til - drift+1<stop
     all_goals
      go_wp2_with fail
      ·go_ret2;exact lv aO.out (awZ HE.out (by rw[HT.out,HF.out];omega)) HE.out
      ·go_ret2;exact Hk aO.out (Rf HE.out (by omega) HF.out (by rw[HT.out];first | done | omega)) HE.out
   ·have hp':Np.plain ⟨⟨s.data.toList,ty,life,ds⟩,gs⟩=false:=by simpa using hp
    have he:Np.fW ⟨⟨s.data.toList,ty,life,ds⟩,gs⟩ drift stop=1:=by rw[Np.fW,Qc (λh=>hp h.2.2.2.2)]
    have HE:=jq he;clear he hp;go_wp2_with fail;go_ret2;exact lv aO.out (by rw[Np.fV,HE.out];rfl) HE.out
end
section
open Go.RowKit Go.Shelf
attribute [local go_sem] Oper.semAt_some
def km(b k:Int)(j:Nat):List Int:=(List.range j).map λ(i:Nat)=>b+i * k
theorem Kj(b k:Int)(j:Nat):km b k (j+1)=km b k j ++ [b+j * k]:=by simp[km,List.range_succ]
theorem azK(b k:Int)(j:Nat):(km b k j).length=j:=by simp[km]
theorem Cs(b s k:Int)(hk:1<=k)(j:Nat):j<(Np.fZ b s k).length↔b+j * k<s:=by
 have bF:0<k:=by omega
 simp only[Np.fZ,List.length_map,List.length_range];rw[Int.lt_toNat];have h:=Int.le_ediv_iff_mul_le (a:=(j:Int)+1) (b:=s - b+k - 1) bF;rw[Int.add_mul] at h;constructor
 ·intro aa;have:=h.1 (by omega);omega
 ·intro aa;have:=h.2 (by omega);omega
theorem ayJ(b s k:Int)(j:Nat)(hj:j<=(Np.fZ b s k).length):km b k j <+: Np.fZ b s k:=by
 unfold Np.fZ km at *;simp only[List.length_map,List.length_range] at hj;obtain⟨d,hd⟩:∃ d,((s - b+k - 1) / k).toNat=j+d:=⟨((s - b+k - 1) / k).toNat - j,by omega⟩;rw[hd,List.range_add,List.map_append];exact List.prefix_append _ _
theorem Rj(b s k:Int)(j:Nat)(hj:j=(Np.fZ b s k).length):km b k j=Np.fZ b s k:=by
 unfold Np.fZ km at *;simp only[List.length_map,List.length_range] at hj;rw[hj]
def Up(b s k:Int)(bx:Nat)(J:List Int->(Nat->Prop)->World->Prop)(S:Nat->Prop)(W:World)(v:Value)(wr:World):Prop:=
 ∃ (j:Nat) (S1:Nat->Prop),v = .int .i64 (b+j * k)/\j<=(Np.fZ b s k).length/\J (km b k j) S1 wr/\(∀ i,S1 i->i<wr.heap.size)/\¬ S1 bx/\(∀ i,S1 i->S i\/W.heap.size<=i)/\
   wr.heap[bx]?=some (.cells #[.int .i64 b,.int .i64 s,.int .i64 k] 149 (0,0))
theorem ayZ(b s k:Int)(hk:1<=k)(jj:k<=20000000)(hb:0<=b)(hs:s<=10000000)(ac:b<=10000000)(n₀:Nat)(w:World) :
 tc prog 83 (λy=>#[.agg #[.int .i64 b,.int .i64 s,.int .i64 k],y]) (λx:Int=>#[.int .i64 x]) (Np.fZ b s k) n₀ w:=by
 intro l J Jx S W hW hJ DG hY hS hS' h0;refine callsIn_of_wp func83 rfl trivial ?_ rfl;simp only[ntmps83,List.size_toArray,List.length_cons,List.length_nil,Nat.reduceAdd,Nat.reduceSub,Array.replicate_succ,Array.replicate_zero,List.push_toArray,List.append_toArray,List.nil_append,List.cons_append];gi_wp2_with fail;gi_loopw [4] (λv wr=>Up b s k W.heap.size J S W v wr) (λv _=>(s - intOf v).toNat)
 case atStart=>
  refine⟨0,S,by simp,jQ _,hJ _ _ _ _ h0 (sD _),λi e=>by have:=hS' i e;simp;omega,λe=>by have:=hS' _ e;omega,λ_ e=>.inl e,World.alloc_heap_new W _⟩
 case round=>
  obtain⟨j,S1,rfl,hj,lR,cI,nC,aV,fR⟩:=hrel;have Yp:W.heap.size<wr.heap.size:=(eQ.1 fR).1;have b0:wr.cell? ⟨W.heap.size,0,none⟩=some (.int .i64 b):=by simp[World.cell?,fR]
  have b1:wr.cell? ⟨W.heap.size,1,none⟩=some (.int .i64 s):=by simp[World.cell?,fR]
  have b2:wr.cell? ⟨W.heap.size,2,none⟩=some (.int .i64 k):=by simp[World.cell?,fR]
  have eL:=jq fR;clear fR;by_cases aa:b+j * k<s
  ·have j8:=(Cs b s k hk j).2 aa;have bg:km b k j ++ [b+j * k] <+: Np.fZ b s k:=by rw[<-Kj];exact ayJ b s k (j+1) j8
   obtain⟨fn,tmps,assign,body,hy,hR⟩:=hY (km b k j) (b+j * k) S1 wr bg lR cI (by omega);have HP:=jq bg;clear bg j8;have IT:0<=(j:Int) * k:=Int.mul_nonneg (by omega) (by omega);generalize hq:(j:Int) * k=q at *;have HQ:=jq hq;clear hq;gi_wp2_with fail;refine⟨rfl,hR.mono ?_⟩;rintro e W3 ⟨S3,aF,dz,dX,(⟨rfl,gR⟩ | ⟨rfl,gS⟩)⟩
   ·have AU:=(aF.keep _ Yp nC).trans eL.out;have d0:W3.cell? ⟨W.heap.size,0,none⟩=some (.int .i64 b):=by simp[World.cell?,AU]
    have d1:W3.cell? ⟨W.heap.size,1,none⟩=some (.int .i64 s):=by simp[World.cell?,AU]
    have d2:W3.cell? ⟨W.heap.size,2,none⟩=some (.int .i64 k):=by simp[World.cell?,AU]
    have aA:=jq AU;clear AU;gi_wp2_with fail;go_roundw
    case rel=>
     refine⟨j+1,S3,?_,?_,?_,dX,λe=>?_,λi e=>?_,aA.out⟩
     ·have:((j+1:Nat):Int) * k=q+k:=by rw[<-HQ.out];push_cast;rw[Int.add_mul];omega
      rw[this];congr 1;omega
     ·exact (Cs b s k hk j).2 (by rw[HQ.out];exact aa)
     ·rw[Kj,HQ.out];exact gR
     ·rcases dz _ e with e | e
      ·exact nC e
      ·omega
     ·rcases dz _ e with e | e
      ·exact aV _ e
      ·right;omega
    case measure=>simp[intOf] <;> omega
   ·gi_wp2_with fail;refine bodyPost_ret (results_none rfl _ _ _) rfl ?_;refine⟨⟨_,rfl⟩,.inr ⟨_,S3,HP.out,gS,λi e=>?_⟩⟩;rcases dz _ e with e | e
    ·exact aV _ e
    ·right;omega
  ·have kK:j=(Np.fZ b s k).length:=by
    have:=mt (Cs b s k hk j).1 aa
    omega
   have HE:=jq (Rj b s k j kK);clear kK hj;have IT:0<=(j:Int) * k:=Int.mul_nonneg (by omega) (by omega);generalize hq:(j:Int) * k=q at *;gi_wp2_with fail;go_end0;exact⟨⟨_,rfl⟩,.inl ⟨S1,by rw[<-HE.out];exact lR,aV⟩⟩
end
section
open Go.ChangeShapes Go.WideShapes Go.ChangeAt Go.RowKit Go.Deep
def jc{α:Type}(P:Program)(t:TypeId)(sz:Nat)(R:aPK α):Prop:=
 ∀ (H:Type) (enc:TypeId×Value->H) (W:World) (base:Nat) (spare:Nat->Bool) (held:Bool) (fuel:Nat) (cs:List Value) (d:DataW H) (ps:List MemPlace),
   DataW.trod enc P W base spare held fuel t cs=some (d,ps)->(∀ n∈d.weights P t,n<=reachBytes)->cs.length=sz/\∃ x,R W W.heap.size cs x
def RNum(k:IntKind)(_:World)(_:Nat)(e:List Value)(x:Int):Prop:=e = [.int k x]/\(Lit.int k x).wf=true
theorem kW{P:Program}{t:TypeId}{k:IntKind}(ht:P.underlying t=some (.int k)):jc P t 1 (RNum k):=by
 intro H enc W base spare held fuel cs d ps h _;obtain⟨n,rfl,_,Yz⟩:=DataW.trod_int ht h;exact⟨rfl,n,rfl,Yz⟩
def RStr(_:World)(_:Nat)(e:List Value)(x:List UInt8):Prop:=∃ s:ByteArray,s.data.toList=x/\s.size<=140737488355328/\e = [.string s]
theorem Cd{P:Program}{t:TypeId}(ht:P.underlying t=some .string):jc P t 1 RStr:=by
 intro H enc W base spare held fuel cs d ps h hw;obtain⟨s,rfl,hx,_⟩:=DataW.trod_string ht h;simp only[Prod.mk.injEq] at hx;rw[hx.1] at hw
 have:=hw s.data.toList.length (by simp[DataW.weights])
 have h2:=reachBytes_lt;exact⟨rfl,s.data.toList,s,rfl,by rw[bk] at this;omega,rfl⟩
def RSl{α:Type}(R:aPK α)(sz:Nat)(W:World)(B:Nat)(e:List Value)(xs:List α):Prop:=∃ v,e = [v]/\SlR R sz W B v xs
theorem RSl.kept{α:Type}{R:aPK α}{sz:Nat}(h:dH R):dH (RSl R sz):=λ_ _ _ _ _ ⟨v,hv,hs⟩ hb=>⟨v,hv,hs.keep h hb⟩
theorem RSl.more{α:Type}{R:aPK α}{sz:Nat}(h:eh R):eh (RSl R sz):=λ_ _ _ _ _ ⟨v,hv,hs⟩ hb=>⟨v,hv,hs.more h hb⟩
theorem Rv{H:Type}{P:Program}{e:TypeId} : ∀ {ds:List (DataW H)} {d:DataW H},d∈ds->∀ n∈d.weights P e,n∈DataW.weightsAll P e ds
 | d0::ds,d,hd,n,hn=>by
   simp only[DataW.weightsAll,List.mem_append];rcases List.mem_cons.1 hd with rfl | hd
   ·exact .inl hn
   ·exact .inr (Rv hd n hn)
theorem Mi(b o n:Nat):(⟨b,o,none⟩:Addr).add n=⟨b,o+n,none⟩:=by
 unfold Addr.add;split
 ·rename_i h;subst h;rfl
 ·rfl
theorem Uv{W:World}{a:Addr}{v:Value}(h:W.cell? a=some v):a=⟨a.block,a.off,none⟩:=by
 have:=World.cell?_spot h
 cases a;simp_all
theorem yK{α:Type}{P:Program}{t e:TypeId}{sz:Nat}{R:aPK α}(ht:P.underlying t=some (.slice e))(hC:P.cellsOf e=sz)(al:0<sz)(hb:0<P.bytesOf e)(hR:jc P e sz R):jc P t 1 (RSl R sz):=by
 intro H enc W base spare held fuel cs d ps h hw;rcases open_slice ht h with ⟨rfl,_⟩ | ⟨a,len,cap,m,n,D,Pl,rfl,mF,hl,hm,vS,hx,hi⟩
 ·exact⟨rfl,[],_,rfl,none,0,rfl,by simp,by simp,λi x hx=>by simp at hx⟩
 ·simp only[Prod.mk.injEq] at hx;rw[hx.1] at hw;have lT:len<=m:=by rw[vS];split <;> omega
  have hlen:len<=140737488355328:=by
   have:=hw ((((List.range len).map D).length+((List.range (m - len)).map λj=>D (len+j)).length) * P.bytesOf e) (by simp[DataW.weights,ht])
   simp only[List.length_map,List.length_range] at this;have h2:=reachBytes_lt;have h3:len+(m - len)<=(len+(m - len)) * P.bytesOf e:=Nat.le_mul_of_pos_right _ hb;omega
  have aY:∀ i,i<len->∃ x cs',W.cells? base (a.add (i * sz)) sz=some cs'/\cs'.length=sz/\R W W.heap.size cs' x:=λi ee=>by
   obtain⟨cs',hc,Ys⟩:=hi i (by omega);rw[hC] at hc;obtain⟨h1,x,h2⟩:=hR H enc W base spare held n cs' (D i) (Pl i) Ys (λk hk=>hw k (by
    simp only[DataW.weights,ht];exact mQ _ (List.mem_append_left _ (Rv (List.mem_map.2 ⟨i,List.mem_range.2 ee,rfl⟩) k hk))))
   exact⟨x,cs',hc,h1,h2⟩
  have aP:∀ k,k<=len->∃ xs:List α,xs.length=k/\∀ i x,xs[i]?=some x->∃ cs',W.cells? base (a.add (i * sz)) sz=some cs'/\cs'.length=sz/\R W W.heap.size cs' x:=by
   intro k
   induction k with
   | zero=>exact λ_=>⟨[],rfl,λi x hx=>by simp at hx⟩
   | succ k ih=>
    intro hk;obtain⟨xs,sw,nI⟩:=ih (by omega);obtain⟨x,hx⟩:=aY k (by omega);refine⟨xs ++ [x],by simp[sw],λi y hy=>?_⟩;rcases Nat.lt_or_ge i xs.length with aa | pI
    ·rw[List.getElem?_append_left aa] at hy;exact nI i y hy
    ·rw[oQ pI] at hy
     have:i - xs.length=0:=by
      have:=(cQ.1 hy).1
      simp at this;omega
     rw[this] at hy;simp at hy;subst hy;rw[show i=k by omega];exact hx
  obtain⟨xs,sw,nI⟩:=aP len (bQ _);refine⟨rfl,xs,_,rfl,some a,cap,by rw[sw],by omega,by omega,λi x hx=>?_⟩;have h0:0<len:=by have:=(cQ.1 hx).1;omega
  obtain⟨c0,Ir,aOQ,_⟩:=nI 0 _ (aQ (by omega));obtain⟨_,_,WZ⟩:=World.cells?_some Ir;have ha:a=⟨a.block,a.off,none⟩:=by
   have h1:=WZ 0 al;rw[show (a.add (0 * sz)).add 0=a by simp[Addr.add]] at h1;rw[aQ (by omega)] at h1;exact Uv h1
  obtain⟨cs',hc,jB,Ic⟩:=nI i x hx;obtain⟨_,_,WY⟩:=World.cells?_some hc;have hce:gG W a.block (a.off+i * sz) cs':=λj u hj=>by
   have j8:=(cQ.1 hj).1;have h1:=WY j (by omega);rw[hj,ha] at h1;have h2:((⟨a.block,a.off,none⟩:Addr).add (i * sz)).add j=⟨a.block,a.off+i * sz+j,none⟩:=by
    rw[Mi,Mi]
   rw[h2] at h1;exact h1
  refine⟨a.block,a.off,cs',by rw[<-ha],?_,jB,hce,Ic⟩
  have:=World.block_lt_of_cell? W _ (hce 0 _ (aQ (by omega)))
  exact this
theorem ui{P:Program}{t:TypeId}{fs:Array Field}(hs:P.underlying t=some (.struct fs)){H:Type}{enc:TypeId×Value->H}{W:World}{base:Nat}{spare:Nat->Bool}{held:Bool}{fuel:Nat}{cs:List Value}{d:DataW H}{ps:List MemPlace}
 (h:DataW.trod enc P W base spare held fuel t cs=some (d,ps)) (hw:∀ n∈d.weights P t,n<=reachBytes) :
 cs.length=P.cellsOf t/\∀ (j:Nat) (f:Field),fs[j]?=some f->∃ n d' ps',DataW.trod enc P W base spare held n f.type ((cs.drop f.offset).take (P.cellsOf f.type))=some (d',ps')/\∀ k∈d'.weights P f.type,k<=reachBytes:=by
 obtain⟨ys,n,_,hx,hl,hyl,hf⟩:=DataW.trod_struct hs h;simp only[Prod.mk.injEq] at hx;refine⟨hl,λj f hj=>?_⟩;have j8:j<fs.size:=(eQ.1 hj).1;have h1:=hf j f hj;rw[aQ (by omega)] at h1;refine⟨n,_,_,h1,λk hk=>hw k ?_⟩;rw[hx.1];simp only[DataW.weights,hs];refine DataW.weights_mem_each (j:=j) (t:=f.type) (d:=(ys[j]'(by omega)).1) ?_ ?_ k hk
 ·simp[hj]
 ·simp[aQ (show j<ys.length by omega)]
theorem Mx{H:Type}{enc:TypeId×Value->H}{P:Program}(hl:laidOutB P=true){W W':World}(hb:Below W.heap.size W W') :
 ∀ {ts:List TypeId} {vs:List Value} {ds:List (DataW H)} {ps:List MemPlace},(∀ t∈ts,P.readableRec t=true/\t<P.types.size)->DataW.TrodAll enc P W 0 (λ_=>true) true ts vs ds ps->(∀ x∈ps,x.block<W.heap.size)->
   DataW.TrodAll enc P W' 0 (λb=>decide (b<W.heap.size)) true ts vs ds ps
 | [],[],[],_,_,h,_=>h
 | t::ts,v::vs,d::ds,ps,hr,h,aa=>by
   obtain⟨p,q,h1,h2,rfl⟩:=h;have ht:=hr t (by simp);exact⟨p,q,Below.trod hl ht.1 ht.2 h1 hb (λx hx=>aa x (by simp[hx])),Mx hl hb (λt ht=>hr t (by simp[ht])) h2 (λx hx=>aa x (by simp[hx])),rfl⟩
 | [],_::_,_,_,_,h,_=>h.elim
 | [],[],_::_,_,_,h,_=>h.elim
 | _::_,[],_,_,_,h,_=>h.elim
 | _::_,_::_,[],_,_,h,_=>h.elim
theorem Zp{H:Type}{enc:TypeId×Value->H}{P:Program}{f:Func}{s:ChangeSpec}{W W':World}{args:Array Value}{v:Value}{ds gs:List (DataW H)}{before:List MemPlace}
 (hl:laidOutB P=true) (hr:∀ t∈f.params.toList,P.readableRec t=true/\t<P.types.size) (fC:s.vars = [])
 (hW:DataW.Whole enc P f.params.toList s.vars false W args.toList ds gs before) (hb:Below W.heap.size W W')
 (r9:∀ (b:Nat) (sp:Nat->Bool) (hd:Bool),DataW.TrodAll enc P W' b sp hd f.resultTypes.toList (v.resultList f.resultTypes.size) (s.fn H (ds++gs)).results [])
 (Ij:(s.fn H (ds++gs)).args=ds) (Yv:(s.fn H (ds++gs)).vars = []) :
 s.post enc P f false true false false W args v W':=by
 have aa:=hW.lt;have hW':=hW;obtain⟨p,q,hA,hV,rfl,_,_⟩:=hW;rw[fC] at hV;have hq:q = []:=by
  cases gs with
  | nil=>exact hV
  | cons _ _=>exact hV.elim
 subst hq;refine⟨ds,gs,_,[],p,[],hW',r9 _ _ _,?_,?_,World.keptBut_mono (λx hx=>⟨hx,.inr (by simpa using hx)⟩) (hb.frame (·∈p ++ [])),λh=>by cases h⟩
 ·rw[Ij];exact Mx hl hb hr hA (λx hx=>aa x (by simp[hx]))
 ·rw[Yv,fC];rfl
theorem zY:prog.cellsOf 9=1:=by kernel_rfl
theorem lo:laidOutB prog=true:=by kernel_rfl
end
end Go.Proofs.YtfnopgdcaanaiaaGreatDoor
