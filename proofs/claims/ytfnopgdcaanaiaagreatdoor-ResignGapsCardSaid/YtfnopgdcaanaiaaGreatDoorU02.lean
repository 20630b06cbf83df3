/- Parts of the proof. No condition. -/
import Derived.Test.YtfnopgdcaanaiaaGreatDoorRows
import Derived.ProofKit
import Derived.OpenShut
import Derived.Deep.DeepHandedRow
import Derived.Lib.LaidTab
import Derived.Deep.Slices
import Derived.Test.YtfnopgdcaanaiaaGreatDoorU01
set_option linter.all false
set_option maxRecDepth 100000
set_option maxHeartbeats 8000000
namespace Go.Proofs.YtfnopgdcaanaiaaGreatDoor
open Go.Proofs.Tryz
section
open Go.RowKit
def f9(w:World)(B:Nat):Prop:=0<B/\∀ k:Nat,k<9->fZ w 0 (k * 8) (g8 (Np.bD k)).toList
theorem f9.keep{w w':World}{B:Nat}(h:f9 w B)(hb:Below B w w'):f9 w' B:=⟨h.1,λk hk=>(h.2 k hk).keep hb h.1⟩
theorem f9.more{w:World}{B B':Nat}(h:f9 w B)(hB:B<=B'):f9 w B':=⟨lQ h.1 hB,h.2⟩
def bW(_:World)(_:Nat)(e:List Value)(d:Np.Datum):Prop:=∃ s:ByteArray,s.data.toList=d.text/\s.size<=140737488355328/\e = [.string s,.int .i64 d.n,.int .i64 d.m]
theorem cu:cL bW:=λ_ _ _ _ _ h _=>h
theorem cS:dD bW:=λ_ _ _ _ _ h _=>h
theorem Rj{w w':World}(h:w'=w):Below w.heap.size w w':=by rw[h];exact vQ _ _
theorem Hu(k ln mn lm mm:Int)(ev si wi:Bool)(s:ByteArray)(hs:s.size<=140737488355328)(n m:Int)(w:World)(t:Bool)(ht:Np.iZ ⟨k,ln,mn,lm,mm,ev,si,wi⟩ ⟨s.data.toList,n,m⟩=t) :
 Calls prog 230 #[.agg #[.int .i64 k,.int .i64 ln,.int .i64 mn,.int .i64 lm,.int .i64 mm,.bool ev,.bool si,.bool wi],.agg #[.string s,.int .i64 n,.int .i64 m]] w
  λe w'=>e = .returned (.bool t)/\Below w.heap.size w w':=by
 subst ht;exact ZB k ln mn lm mm ev si wi s hs n m w
def QU(w1:World)(o:Obj)(r:Np.Rule)(ds:List Np.Datum)(i:Value)(wr:World):Prop:=
 ∃ j:Nat,j<=ds.length/\i = .int .i64 j/\Below (w1.alloc o).heap.size (w1.alloc o) wr/\Np.il r none ds=Np.il r (ds.take j).getLast? (ds.drop j)
theorem GY(s:ByteArray)(hs:s.size<=140737488355328)(ty life:Int)(v:Value)(ds:List Np.Datum)(w:World)(hR:f9 w w.heap.size)(hd:SlR bW 3 w w.heap.size v ds) :
 Calls prog 152 #[.agg #[.string s,.int .i64 ty,.int .i64 life,v]] w
  λe w'=>e = .returned (.bool (Np.da ⟨s.data.toList,ty,life,ds⟩))/\Below w.heap.size w w':=by
 have HR:=jq hR;have HD:=jq hd;obtain⟨A,c,rfl,aW,bh,eO⟩:=hd;clear hR eO;have HF:Hid (∀ t:Bool,t=Np.da ⟨s.data.toList,ty,life,ds⟩->(.bool t:Value) = .bool (Np.da ⟨s.data.toList,ty,life,ds⟩)):=λt ht=>by rw[ht]
 go_enter func152,ntmps152;go_wp2_with fail;refine (nameValid_any _ hs _).mono ?_;rintro e w1 ⟨rfl,hb⟩;have br:Below w.heap.size w w1:=((vQ _ w).alloc (bQ _) _).trans (hb.mono (by simp));have al:w.heap.size+1<=w1.heap.size:=by have:=hb.size;simpa using this
 have bU:w.heap.size<w1.heap.size:=by omega
 have c0:w1.cell? ⟨w.heap.size,0,none⟩=some (.string s):=by rw[hb.cell (by simp)];go_simp
 have c1:w1.cell? ⟨w.heap.size,1,none⟩=some (.int .i64 ty):=by rw[hb.cell (by simp)];go_simp
 have c2:w1.cell? ⟨w.heap.size,2,none⟩=some (.int .i64 life):=by rw[hb.cell (by simp)];go_simp
 have c3:w1.cell? ⟨w.heap.size,3,none⟩=some (.slice A ds.length c):=by rw[hb.cell (by simp)];go_simp
 have HB:=jq hb;clear hb;by_cases eD:1<=ty/\ty<=8
 ·obtain⟨k,rfl⟩:=Int.eq_ofNat_of_zero_le (by omega:0<=ty);have Um:k<9:=by omega
  have qo:=(HR.out.keep br).2 k Um;have r0:w1.cell? ⟨0,k * 8,none⟩=some (.int .i64 (Np.bD k).text):=qo 0 _ rfl;have r1:w1.cell? ⟨0,k * 8+1,none⟩=some (.int .i64 (Np.bD k).leastN):=qo 1 _ rfl;have r2:w1.cell? ⟨0,k * 8+2,none⟩=some (.int .i64 (Np.bD k).mostN):=qo 2 _ rfl;have r3:w1.cell? ⟨0,k * 8+3,none⟩=some (.int .i64 (Np.bD k).leastM):=qo 3 _ rfl;have r4:w1.cell? ⟨0,k * 8+4,none⟩=some (.int .i64 (Np.bD k).mostM):=qo 4 _ rfl;have r5:w1.cell? ⟨0,k * 8+5,none⟩=some (.bool (Np.bD k).even):=qo 5 _ rfl;have r6:w1.cell? ⟨0,k * 8+6,none⟩=some (.bool (Np.bD k).single):=qo 6 _ rfl;have r7:w1.cell? ⟨0,k * 8+7,none⟩=some (.bool (Np.bD k).wild):=qo 7 _ rfl;clear qo;go_wp2_with (first
   | (go_at_call 228;refine (Hx _ _ _ _).mono ?_;rintro e w' ⟨rfl,rfl⟩)
   | (go_at_call 229;refine (Mv _ hs _).mono ?_;rintro e w' ⟨rfl,rfl⟩))
  all_goals first
   | (go_ret
      go_light;refine⟨ae ?_,by first | exact br | exact br.alloc (by omega) _⟩;simp_all [Np.da] <;> (intros;omega))
   | skip
  all_goals
   have hv:Np.da ⟨s.data.toList,k,life,ds⟩=Np.il (Np.bD k) none ds:=by
    go_light;simp_all [Np.da] <;> (intros;omega)
  rotate_left 3
  all_goals
   have HV:=jq hv;clear hv HF;go_loopw [52] (λi wr=>QU w1 (Obj.cells (g8 (Np.bD k)) 283) (Np.bD k) ds i wr) (λi _=>ds.length - (intOf i).toNat)
   case atStart=>
    refine⟨0,jQ _,rfl,Rj ?_,rfl⟩;go_light;simp_all [g8]
   case round=>
    obtain⟨j,hj,rfl,aI,hg⟩:=hrel;have HG:=jq hg;clear hg;by_cases aa:j<ds.length
    ·have GD:=aI.size;simp only[World.size_alloc] at GD;have kr:Below w.heap.size w wr:=(br.alloc (by omega) _).trans (aI.mono (by simp;omega));have Ve:w.heap.size<wr.heap.size:=by omega
     have ak:w1.heap.size<wr.heap.size:=by omega
     have d3:wr.cell? ⟨w.heap.size,3,none⟩=some (.slice A ds.length c):=by rw[aI.cell (by simp;omega)];rw[World.cell?_alloc_lt _ _ _ (by simpa using bU)];exact c3
     have q0:wr.cell? ⟨w1.heap.size,0,none⟩=some (.int .i64 (Np.bD k).text):=by rw[aI.cell (by simp)];exact World.cell?_alloc_new w1 _ _ _
     have q1:wr.cell? ⟨w1.heap.size,1,none⟩=some (.int .i64 (Np.bD k).leastN):=by rw[aI.cell (by simp)];exact World.cell?_alloc_new w1 _ _ _
     have q2:wr.cell? ⟨w1.heap.size,2,none⟩=some (.int .i64 (Np.bD k).mostN):=by rw[aI.cell (by simp)];exact World.cell?_alloc_new w1 _ _ _
     have q3:wr.cell? ⟨w1.heap.size,3,none⟩=some (.int .i64 (Np.bD k).leastM):=by rw[aI.cell (by simp)];exact World.cell?_alloc_new w1 _ _ _
     have q4:wr.cell? ⟨w1.heap.size,4,none⟩=some (.int .i64 (Np.bD k).mostM):=by rw[aI.cell (by simp)];exact World.cell?_alloc_new w1 _ _ _
     have q5:wr.cell? ⟨w1.heap.size,5,none⟩=some (.bool (Np.bD k).even):=by rw[aI.cell (by simp)];exact World.cell?_alloc_new w1 _ _ _
     have q6:wr.cell? ⟨w1.heap.size,6,none⟩=some (.bool (Np.bD k).single):=by rw[aI.cell (by simp)];exact World.cell?_alloc_new w1 _ _ _
     have q7:wr.cell? ⟨w1.heap.size,7,none⟩=some (.bool (Np.bD k).wild):=by rw[aI.cell (by simp)];exact World.cell?_alloc_new w1 _ _ _
     obtain⟨A',c',hA',_,_,aC⟩:=HD.out.keep cu kr
     cases hA'
     obtain⟨b,o,e,rfl,bp,_,hce,sd,rG,rH,rfl⟩:=aC j _ (aQ aa);have e0:wr.cell? ⟨b,o+j * 3,none⟩=some (.string sd):=hce 0 _ rfl;have e1:wr.cell? ⟨b,o+j * 3+1,none⟩=some (.int .i64 ds[j].n):=hce 1 _ rfl;have e2:wr.cell? ⟨b,o+j * 3+2,none⟩=some (.int .i64 ds[j].m):=hce 2 _ rfl;have bO:b<wr.heap.size:=by omega
     have aL:=jq aI;have az:=jq kr;have fC:=jq aC;have uy:=jq rG;clear hce aI kr aC rG c0 c1 c2 c3 r0 r1 r2 r3 r4 r5 r6 r7;go_wp2_with fail;have p0:=World.cell?_alloc_new wr #[.string sd,.int .i64 ds[j].n,.int .i64 ds[j].m] 128 0;have p1:=World.cell?_alloc_new wr #[.string sd,.int .i64 ds[j].n,.int .i64 ds[j].m] 128 1;have p2:=World.cell?_alloc_new wr #[.string sd,.int .i64 ds[j].n,.int .i64 ds[j].m] 128 2;have keep:∀ b o,b<wr.heap.size->(wr.alloc (.cells #[.string sd,.int .i64 ds[j].n,.int .i64 ds[j].m] 128)).cell? ⟨b,o,none⟩=wr.cell? ⟨b,o,none⟩:=λb o h=>World.cell?_alloc_lt _ _ _ h;have rK:(wr.alloc (.cells #[.string sd,.int .i64 ds[j].n,.int .i64 ds[j].m] 128)).heap.size=wr.heap.size+1:=World.size_alloc _ _;have eN:Below wr.heap.size wr (wr.alloc (.cells #[.string sd,.int .i64 ds[j].n,.int .i64 ds[j].m] 128)):=(vQ _ _).alloc (bQ _) _;generalize wr.alloc (.cells #[.string sd,.int .i64 ds[j].n,.int .i64 ds[j].m] 128)=wx at p0 p1 p2 keep rK eN |-;have bM:w.heap.size<wx.heap.size:=by omega
     have bA:w1.heap.size<wx.heap.size:=by omega
     have kI:wr.heap.size<wx.heap.size:=by omega
     have nX:b<wx.heap.size:=by omega
     have nP:∀ (g:bi wx) (p:Addr),p.block<wx.heap.size->g.w.cell? p=wx.cell? p:=λg p h=>g.cell p h;have g9:=jq eN;clear eN rK;have yF:(⟨sd.data.toList,ds[j].n,ds[j].m⟩:Np.Datum)=ds[j]:=by rw[uy.out]
     have po:=jq yF;clear yF;by_cases qq:Np.iZ (Np.bD k) ⟨sd.data.toList,ds[j].n,ds[j].m⟩=true
     ·have jP:=jq qq;clear qq;by_cases iS:j=0
      ·subst iS;refine adX ?_
       repeat (go_big_quiet_step ((go_at_call 230;exact Calls.grow_of (Hu _ _ _ _ _ _ _ _ _ rH _ _ _ true jP.out))))
       refine wpQuiet_nil ?_;rintro _ ⟨g,rfl⟩;go_wp2_with fail;go_roundw
       case rel=>
        go_light;have h1:=Np.KB (r:=Np.bD k) (aQ aa) (by rw[<-po.out];exact jP.out);exact⟨1,aa,by go_num,aL.out.trans ((g9.out.trans (g.below.acQ)).mono (by simp;omega)),by rw[<-h1];exact HG.out⟩
       case measure=>simp[intOf] <;> omega
      ·obtain⟨i,rfl⟩:∃ i,j=i+1:=⟨j - 1,by omega⟩
       try (exfalso;omega)
       all_goals
        obtain⟨b',o',e',nH,yu,_,l6,sq,jt,U0,rfl⟩:=fC.out i _ (aQ (by omega))
        cases nH
        have f0:wr.cell? ⟨b,o+i * 3,none⟩=some (.string sq):=l6 0 _ rfl;have f1:wr.cell? ⟨b,o+i * 3+1,none⟩=some (.int .i64 (ds[i]'(by omega)).n):=l6 1 _ rfl;have f2:wr.cell? ⟨b,o+i * 3+2,none⟩=some (.int .i64 (ds[i]'(by omega)).m):=l6 2 _ rfl;have yE:(⟨sq.data.toList,(ds[i]'(by omega)).n,(ds[i]'(by omega)).m⟩:Np.Datum)=ds[i]'(by omega):=by rw[jt]
        have DU:=jq yE;clear l6 jt yE;refine adX ?_
        repeat (go_big_quiet_step (first
         | (go_at_call 230;exact Calls.grow_of (Hu _ _ _ _ _ _ _ _ _ rH _ _ _ true jP.out))
         | (go_at_call 231;exact Calls.grow_of (RK _ _ _ _ _ _ _))))
        refine wpQuiet_nil ?_;rintro _ ⟨g,rfl⟩;have h1:=Np.KC (r:=Np.bD k) (aQ (by omega:i<ds.length)) (aQ aa) (by rw[<-po.out];exact jP.out);rw[<-po.out,<-DU.out] at h1;have H1:=jq h1;clear h1;go_wp2_with fail
        ·go_ret;refine⟨ae ?_,az.out.trans ((g9.out.trans (g.below.acQ)).acQ)⟩;rw[HV.out,HG.out,H1.out,Qc (by omega)]
        ·go_roundw
         case rel=>
          go_light;exact⟨i+1+1,aa,by go_num,aL.out.trans ((g9.out.trans (g.below.acQ)).mono (by simp;omega)),by rw[HG.out,H1.out,Qb (by omega)]⟩
         case measure=>simp[intOf] <;> omega
     ·have zF:Np.iZ (Np.bD k) ⟨sd.data.toList,ds[j].n,ds[j].m⟩=false:=by simpa using qq
      have jP:=jq zF;clear qq zF;refine adX ?_
      repeat (go_big_quiet_step ((go_at_call 230;exact Calls.grow_of (Hu _ _ _ _ _ _ _ _ _ rH _ _ _ false jP.out))))
      refine wpQuiet_nil ?_;rintro _ ⟨g,rfl⟩;go_wp2_with fail;go_ret;refine⟨ae ?_,az.out.trans ((g9.out.trans (g.below.acQ)).acQ)⟩;rw[HV.out,HG.out,Np.KA (aQ aa) (by rw[<-po.out];exact jP.out)]
    ·go_wp2_with fail;go_ret;refine⟨ae ?_,(br.alloc (by omega) _).trans (aI.mono (by simp;omega))⟩;rw[HV.out,HG.out,List.drop_eq_nil_of_le (by omega)];rfl
 ·have hv:Np.da ⟨s.data.toList,ty,life,ds⟩=false:=by
   simp only[Np.da]
   have:(decide (1<=ty)&&decide (ty<=8))=false:=by simp;omega
   rw[this];simp
  have HV:=jq hv;clear hv;have asQ:(decide (1<=ty)&&decide (ty<=8))=false:=by simp;omega
  go_wp2_with (first
   | (go_at_call 228;refine (Hx _ _ _ _).mono ?_;rintro e w' ⟨rfl,rfl⟩))
  all_goals
   go_ret;exact⟨ae HV.out.symm,br⟩
def cV(_:World)(_:Nat)(e:List Value)(g:Np.Sig):Prop:=∃ s:ByteArray,s.data.toList=g.zone/\s.size<=140737488355328/\e = [.string s,.int .i64 g.key,.int .i64 g.alg,.int .i64 g.frm,.int .i64 g.til,.int .u64 g.sum]
theorem cT:cL cV:=λ_ _ _ _ _ h _=>h
theorem dU:dD cV:=λ_ _ _ _ _ h _=>h
def cA(W:World)(B:Nat)(e:List Value)(x:Np.Signed):Prop:=∃ (s:ByteArray) (v u:Value),s.data.toList=x.set.name/\s.size<=140737488355328/\SlR bW 3 W B v x.set.data/\SlR cV 6 W B u x.sigs/\e = [.string s,.int .i64 x.set.type,.int .i64 x.set.life,v,u]
theorem bI:cL cA:=λ_ _ _ _ _ ⟨s,v,u,h1,h2,h3,h4,h5⟩ hb=>⟨s,v,u,h1,h2,h3.keep cu hb,h4.keep cT hb,h5⟩
theorem eF:dD cA:=λ_ _ _ _ _ ⟨s,v,u,h1,h2,h3,h4,h5⟩ hb=>⟨s,v,u,h1,h2,h3.more cS hb,h4.more dU hb,h5⟩
def QQ(W:World)(B:Nat)(e:List Value)(z:Np.Zone):Prop:=∃ (s:ByteArray) (v:Value),s.data.toList=z.apex/\s.size<=140737488355328/\SlR cA 5 W B v z.sets/\e = [.string s,v]
theorem SlR.later{α:Type}{R:afQ α}{sz:Nat}{w w':World}{v:Value}{xs:List α}(hk:cL R)(hm:dD R)(h:SlR R sz w w.heap.size v xs)(hb:Below w.heap.size w w'):SlR R sz w' w'.heap.size v xs:=(h.keep hk hb).more hm hb.size
theorem E3{w:World}{B:Nat}{v:Value}{xs:List Np.Datum}(h:SlR bW 3 w B v xs){k:Nat}{x:Np.Datum}(hx:xs[k]?=some x):∃ (b o c:Nat) (s:ByteArray),v = .slice (some ⟨b,o,none⟩) xs.length c/\b<B/\xs.length<=c/\s.data.toList=x.text/\s.size<=140737488355328/\
 w.cell? ⟨b,o+k * 3,none⟩=some (.string s)/\w.cell? ⟨b,o+k * 3+1,none⟩=some (.int .i64 x.n)/\w.cell? ⟨b,o+k * 3+2,none⟩=some (.int .i64 x.m):=by
 obtain⟨A,c,rfl,hc,_,he⟩:=h;obtain⟨b,o,e,rfl,hb,_,hce,s,h1,h2,rfl⟩:=he k x hx;exact⟨b,o,c,s,rfl,hb,hc,h1,h2,by have:=hce 0 _ rfl;simpa using this,hce 1 _ rfl,hce 2 _ rfl⟩
theorem fk{w:World}{B:Nat}{v:Value}{xs:List Np.Signed}(h:SlR cA 5 w B v xs){k:Nat}{x:Np.Signed}(hx:xs[k]?=some x):∃ (b o c:Nat) (s:ByteArray) (dv sv:Value),v = .slice (some ⟨b,o,none⟩) xs.length c/\b<B/\xs.length<=c/\s.data.toList=x.set.name/\s.size<=140737488355328/\SlR bW 3 w B dv x.set.data/\SlR cV 6 w B sv x.sigs/\
 w.cell? ⟨b,o+k * 5,none⟩=some (.string s)/\w.cell? ⟨b,o+k * 5+1,none⟩=some (.int .i64 x.set.type)/\w.cell? ⟨b,o+k * 5+2,none⟩=some (.int .i64 x.set.life)/\w.cell? ⟨b,o+k * 5+3,none⟩=some dv/\w.cell? ⟨b,o+k * 5+4,none⟩=some sv:=by
 obtain⟨A,c,rfl,hc,_,he⟩:=h;obtain⟨b,o,e,rfl,hb,_,hce,s,dv,sv,h1,h2,h3,h4,rfl⟩:=he k x hx;exact⟨b,o,c,s,dv,sv,rfl,hb,hc,h1,h2,h3,h4,by have:=hce 0 _ rfl;simpa using this,hce 1 _ rfl,hce 2 _ rfl,hce 3 _ rfl,hce 4 _ rfl⟩
theorem aj{α:Type}{R:afQ α}{sz:Nat}{w:World}{B:Nat}{v:Value}{xs:List α}(h:SlR R sz w B v xs):∃ A c,v = .slice A xs.length c/\xs.length<=c/\xs.length<=140737488355328:=by
 obtain⟨A,c,h1,h2,h3,_⟩:=h;exact⟨A,c,h1,h2,h3⟩
end
section
open Go.RowKit Go.Shelf
section
variable {α:Type}
def kn(p:α->Bool):List α->Int
 | []=>-1
 | x::xs=>if p x then 0 else if kn p xs = -1 then -1 else kn p xs+1
theorem E9(p:α->Bool)(xs:List α)(h:∀ x∈xs,p x=false):kn p xs = -1:=by
 induction xs with
 | nil=>rfl
 | cons x r ih=>rw[kn,Qc (by simp[h x (by simp)]),Qb (ih (λy hy=>h y (by simp[hy])))]
theorem E6(p:α->Bool)(xs:List α)(k:Nat)(hk:k<xs.length)(h:∀ x∈xs.take k,p x=false)(hx:p xs[k]=true):kn p xs=k:=by
 induction xs generalizing k with
 | nil=>simp at hk
 | cons x r ih=>
  cases k with
  | zero=>simp at hx;simp[kn,hx]
  | succ k=>
   have h0:p x=false:=h x (by simp)
   have:=ih k (by simpa using hk) (λy hy=>h y (by simp[hy])) (by simpa using hx)
   rw[kn,Qc (by simp[h0]),Qc (by omega),this];simp
theorem E8(p:α->Bool)(xs:List α):decide (0<=kn p xs)=xs.any p:=by
 induction xs with
 | nil=>rfl
 | cons x r ih=>
  rw[kn];by_cases h:p x=true
  ·simp[h]
  ·rw[Qc h];have h':p x=false:=by simpa using h
   rw[List.any_cons,h',Bool.false_or,<-ih];split
   ·rename_i e;rw[e]
   ·rename_i e;have : -1<=kn p r:=by
     clear ih h h' e
     induction r with
     | nil=>simp[kn]
     | cons y r ih2=>rw[kn];split;omega;split <;> omega
    rw[Bool.eq_iff_iff];simp;omega
def Jz(R:afQ α)(B:Nat)(w:World)(f:FuncId)(cap:Array Value)(p:α->Bool)(xs:List α):Prop:=
 ∀ (W:World) (x:α) (e0 e1:Value),x∈xs->Below B w W->B<=W.heap.size->R W B [e0,e1] x->Calls prog f (#[.agg #[e0,e1]]++cap) W λe w'=>e = .returned (.bool (p x))/\Below W.heap.size W w'
theorem VF{R:afQ α}(hK:cL R)(f:FuncId)(eg:∀ args w,(callFunc f args).run prog w = .ok (.enter f args) w)(cap:Array Value)(p:α->Bool)(v:Value)(xs:List α)(w:World)(B:Nat)(hB:B<=w.heap.size)(h:SlR R 2 w B v xs)
 (hp:Jz R B w f cap p xs) :
 Calls prog 166 #[v,.func (.func f) #[] cap] w (aeJ w.heap.size w (.int .i64 (kn p xs))):=by
 have H:=jq h;have HP:=jq hp;obtain⟨A,c,rfl,aW,bh,eO⟩:=h;clear eO hp;go_enter func166,ntmps166;go_wp2_with fail;go_loopw [8] (λi wr=>∃ k:Nat,k<=xs.length/\i = .int .i64 k/\Below w.heap.size w wr/\Hid (∀ x∈xs.take k,p x=false)) (λi _=>xs.length - (intOf i).toNat)
 case atStart=>exact⟨0,jQ _,rfl,vQ _ _,jq (by simp)⟩
 case round=>
  obtain⟨k,hk,rfl,hb,HA⟩:=hrel;by_cases aa:k<xs.length
  ·have bp:=hb.mono hB;obtain⟨A',c',hA',_,_,aC⟩:=H.out.keep hK bp
   cases hA'
   obtain⟨b,o,e,rfl,bq,hlen,hce,hR⟩:=aC k _ (aQ aa)
   match e,hlen with
   | [e0,e1],_=>
   have h0:wr.cell? ⟨b,o+k * 2,none⟩=some e0:=hce 0 _ rfl;have h1:wr.cell? ⟨b,o+k * 2+1,none⟩=some e1:=hce 1 _ rfl;have bE:=HP.out wr xs[k] e0 e1 (List.getElem_mem aa) bp (by have:=hb.size;omega) hR;have HC:=jq bE;have dp:=jq hb;clear aC hce hR bE bp hb;go_wp2_with (fail);refine HC.out.mono ?_;rintro e w2 ⟨rfl,ab⟩;have ai:=jq ab;clear ab;by_cases aU:p xs[k]=true
   ·have HX:=jq aU;go_wp2_with (fail);go_ret;exact⟨gE (E6 p xs k aa HA.out HX.out).symm,dp.out.trans (ai.out.mono dp.out.size)⟩
   ·have vD:p xs[k]=false:=by simpa using aU
    have HX:=jq vD;clear aU;go_wp2_with (fail);go_roundw
    case rel=>
     refine⟨k+1,by omega,by go_num,dp.out.trans (ai.out.mono dp.out.size),jq ?_⟩;rw[fQ aa];intro x hx;rcases List.mem_append.1 hx with h | h
     ·exact HA.out x h
     ·simp at h;subst h;exact HX.out
    case measure=>simp[intOf] <;> omega
  ·go_wp2_with fail;go_ret;exact⟨gE (E9 p xs (by have:=HA.out;rwa [kQ (by omega)] at this)).symm,hb⟩
theorem RN{R:afQ α}(hK:cL R)(f:FuncId)(eg:∀ args w,(callFunc f args).run prog w = .ok (.enter f args) w)(cap:Array Value)(p:α->Bool)(v:Value)(xs:List α)(w:World)(B:Nat)(hB:B<=w.heap.size)(h:SlR R 2 w B v xs)
 (hp:Jz R B w f cap p xs) :
 Calls prog 93 #[v,.func (.func f) #[] cap] w (aeJ w.heap.size w (.bool (xs.any p))):=by
 have H:=jq h;have HP:=jq hp;have HE:=jq eg;clear h hp eg;go_enter func93,ntmps93;go_wp2_with (go_at_call 166;refine (VF hK f HE.out cap p v xs w B hB H.out HP.out).mono ?_;rintro e w' ⟨rfl,hb⟩);go_ret;exact⟨ae (E8 p xs),hb⟩
end
def cB(_:World)(_:Nat)(e:List Value)(x:Np.Span):Prop:=e = [.int .i64 x.frm,.int .i64 x.til]
theorem bR:cL cB:=λ_ _ _ _ _ h _=>h
theorem dZ:dD cB:=λ_ _ _ _ _ h _=>h
def Np.o6(l:List Np.Span)(t:Int):Bool:=l.any λs=>decide (s.frm<=t)&&decide (t<s.til)
theorem Tm(b:Nat)(t f u:Int)(w:World)(h:w.cell? ⟨b,0,none⟩=some (.int .i64 t)) :
 Calls prog 94 #[.agg #[.int .i64 f,.int .i64 u],.pointer (some ⟨b,0,none⟩)] w (aeJ w.heap.size w (.bool (decide (f<=t)&&decide (t<u)))):=by
 have lb:=World.block_lt_of_cell? w _ h;simp only at lb;go_enter func94,ntmps94;go_wp2_with fail
 all_goals
  go_ret;go_light;refine⟨ae ?_,(vQ _ w).alloc (bQ _) _⟩;simp_all <;> (intros;omega)
theorem KZ(v:Value)(l:List Np.Span)(t:Int)(w:World)(h:SlR cB 2 w w.heap.size v l) :
 Calls prog 46 #[v,.int .i64 t] w (aeJ w.heap.size w (.bool (Np.o6 l t))):=by
 have H:=jq h;obtain⟨A,c,rfl,aW,bh,eO⟩:=h;clear eO;have br:∀ o,Below w.heap.size w (w.alloc o):=λo=>(vQ _ w).alloc (bQ _) _;have az:=jq br;clear br;go_enter func46,ntmps46;go_wp2_with fail;refine (RN (R:=cB) bR 94 (enters_of func94 (by kernel_rfl) rfl) _ (λs=>decide (s.frm<=t)&&decide (t<s.til)) _ l _ _ (bQ _) ?_ ?_).mono ?_
 ·exact (H.out.keep bR (az.out _)).more dZ (by simp)
 ·intro W x e0 e1 hx hW rb uT;simp only[cB,List.cons.injEq,and_true] at uT;obtain⟨rfl,rfl⟩:=uT;refine Tm w.heap.size t x.frm x.til W ?_;rw[hW.cell (by simp)];go_simp
 ·rintro e w1 ⟨rfl,hb⟩;have HB:=jq hb;clear hb;go_wp2_with fail;go_ret;exact⟨rfl,(az.out _).trans (HB.out.mono (by simp))⟩
def Np.gF(p:Option Int)(s:Np.Span):Bool:=decide (0<=s.frm)&&(decide (s.frm<s.til)&&(decide (s.til<=20000000)&&(match p with | none=>true | some u=>decide (u<s.frm))))
def Np.jB:Option Int->List Np.Span->Bool
 | _,[]=>true
 | p,s::r=>Np.gF p s&&Np.jB (some s.til) r
def Np.kN(l:List Np.Span):Bool:=decide (l.length<=20000)&&Np.jB none l
def Np.jx(l:List Np.Span):Option Int:=l.getLast?.map (·.til)
theorem Df{l:List Np.Span}{k:Nat}{s:Np.Span}(hs:l[k]?=some s)(h:Np.gF (Np.jx (l.take k)) s=false):Np.jB (Np.jx (l.take k)) (l.drop k)=false:=by
 rw[sQ (cQ.1 hs).1,(cQ.1 hs).2];simp[Np.jB,h]
theorem Oa{l:List Np.Span}{k:Nat}{s:Np.Span}(hs:l[k]?=some s)(h:Np.gF (Np.jx (l.take k)) s=true):Np.jB (Np.jx (l.take k)) (l.drop k)=Np.jB (Np.jx (l.take (k+1))) (l.drop (k+1)):=by
 have h1:=(cQ.1 hs);rw[sQ h1.1,h1.2,fQ h1.1,h1.2];rw[Np.jB,h,Bool.true_and];simp[Np.jx]
theorem Wi{l:List Np.Span}{k:Nat}{s:Np.Span}(hs:l[k]?=some s):Np.jx (l.take (k+1))=some s.til:=by
 have h1:=(cQ.1 hs);rw[fQ h1.1,h1.2];simp[Np.jx]
theorem N8(v:Value)(l:List Np.Span)(w:World)(h:SlR cB 2 w w.heap.size v l) :
 Calls prog 53 #[v] w (aeJ w.heap.size w (.bool (Np.kN l))):=by
 have H:=jq h;obtain⟨A,c,rfl,aW,bh,eO⟩:=h;clear eO;by_cases bn:l.length<=20000
 ·have HV:Hid (Np.kN l=Np.jB none l):=jq (by simp[Np.kN,bn]);go_enter func53,ntmps53;go_wp2_with fail;go_loopw [10] (λi wr=>∃ k:Nat,k<=l.length/\i = .int .i64 k/\Below w.heap.size w wr/\Hid (Np.jB none l=Np.jB (Np.jx (l.take k)) (l.drop k))) (λi _=>l.length - (intOf i).toNat)
  case atStart=>exact⟨0,jQ _,rfl,vQ _ _,jq rfl⟩
  case round=>
   obtain⟨k,hk,rfl,hb,HA⟩:=hrel;by_cases aa:k<l.length
   ·obtain⟨A',c',hA',_,_,aC⟩:=H.out.keep bR hb
    cases hA'
    obtain⟨b,o,e,rfl,bq,hlen,hce,hR⟩:=aC k _ (aQ aa);obtain rfl:=hR;have h0:wr.cell? ⟨b,o+k * 2,none⟩=some (.int .i64 l[k].frm):=hce 0 _ rfl;have h1:wr.cell? ⟨b,o+k * 2+1,none⟩=some (.int .i64 l[k].til):=hce 1 _ rfl;have HS:Hid (l[k]?=some l[k]):=jq (aQ aa);have uZ:=hb.size;have dp:=jq hb;clear hce hb;have tk:b<wr.heap.size:=by omega
    have nN:(decide (l[k].frm<0)=true)\/(decide (l[k].frm<0)=false/\decide (l[k].til<=l[k].frm)=true)\/(decide (l[k].frm<0)=false/\decide (l[k].til<=l[k].frm)=false/\decide (20000000<l[k].til)=true)\/(decide (l[k].frm<0)=false/\decide (l[k].til<=l[k].frm)=false/\decide (20000000<l[k].til)=false):=by
     simp only[Qa,decide_eq_false_iff_not];omega
    rcases nN with d1 | ⟨d1,d2⟩ | ⟨d1,d2,d3⟩ | ⟨d1,d2,d3⟩
    ·have HX:Hid (Np.gF (Np.jx (l.take k)) l[k]=false):=jq (by unfold Np.gF;rw[show decide (0<=l[k].frm)=false by simp at d1 |-;omega];rfl);clear aC;go_wp2_with fail;go_quiet (fail);go_wp2_with fail;go_ret;exact⟨ae (by rw[HV.out,HA.out,Df HS.out HX.out]),below_drewN (dp.out.alloc dp.out.size _) _⟩
    ·have HX:Hid (Np.gF (Np.jx (l.take k)) l[k]=false):=jq (by unfold Np.gF;rw[show decide (l[k].frm<l[k].til)=false by simp at d2 |-;omega];simp);clear aC;go_wp2_with fail;go_quiet (fail);go_wp2_with fail;go_ret;exact⟨ae (by rw[HV.out,HA.out,Df HS.out HX.out]),below_drewN (dp.out.alloc dp.out.size _) _⟩
    ·have HX:Hid (Np.gF (Np.jx (l.take k)) l[k]=false):=jq (by unfold Np.gF;rw[show decide (l[k].til<=20000000)=false by simp at d3 |-;omega];simp);clear aC;go_wp2_with fail;go_quiet (fail);go_wp2_with fail;go_ret;exact⟨ae (by rw[HV.out,HA.out,Df HS.out HX.out]),below_drewN (dp.out.alloc dp.out.size _) _⟩
    ·have g1:decide (0<=l[k].frm)=true:=by simp at d1 |-;omega
     have g2:decide (l[k].frm<l[k].til)=true:=by simp at d2 |-;omega
     have g3:decide (l[k].til<=20000000)=true:=by simp at d3 |-;omega
     by_cases bL:0<k
     ·obtain⟨m,rfl⟩:∃ m,k=m+1:=⟨k - 1,by omega⟩;obtain⟨b',o',e',hb',_,_,l6,hR'⟩:=aC m _ (aQ (by omega))
      cases hb'
      obtain rfl:=hR';have p1:wr.cell? ⟨b,o+m * 2+1,none⟩=some (.int .i64 (l[m]'(by omega)).til):=l6 1 _ rfl;have BY:Np.jx (l.take (m+1))=some (l[m]'(by omega)).til:=Wi (aQ (by omega));have iu:decide ((0:Int)<((m+1:Nat):Int))=true:=by simp
      have Gc:(((m+1:Nat):Int) - 1)=(m:Int):=by omega
      by_cases Cv:l[m+1].frm<=(l[m]'(by omega)).til
      ·have d4:decide (l[m+1].frm<=(l[m]'(by omega)).til)=true:=by simpa using Cv
       have HX:Hid (Np.gF (Np.jx (l.take (m+1))) l[m+1]=false):=jq (by rw[BY];simp only[Np.gF,g1,g2,g3,Bool.true_and];simp;omega);clear aC l6 BY Cv g1 g2 g3;go_wp2_with fail;go_quiet (fail);go_wp2_with fail;go_ret;exact⟨ae (by rw[HV.out,HA.out,Df HS.out HX.out]),below_drewN (dp.out.alloc dp.out.size _) _⟩
      ·have d4:decide (l[m+1].frm<=(l[m]'(by omega)).til)=false:=by simpa using Cv
       have HX:Hid (Np.gF (Np.jx (l.take (m+1))) l[m+1]=true):=jq (by rw[BY];simp only[Np.gF,g1,g2,g3,Bool.true_and];simp;omega);clear aC l6 BY Cv g1 g2 g3;go_wp2_with fail;go_quiet (fail);go_wp2_with fail;go_roundw
       case rel=>exact⟨m+1+1,by omega,by go_num,below_drewN (dp.out.alloc dp.out.size _) _,jq (by rw[HA.out,Oa HS.out HX.out])⟩
       case measure=>simp[intOf] <;> omega
     ·have hz:k=0:=by omega
      have HX:Hid (Np.gF (Np.jx (l.take k)) l[k]=true):=jq (by
       have:Np.jx (l.take k)=none:=by rw[hz];rfl
       rw[this];simp only[Np.gF,g1,g2,g3,Bool.true_and])
      have iu:decide ((0:Int)<(k:Int))=false:=by simp;omega
      have gV:decide (0<k)=false:=by simp;omega
      clear aC hz bL g1 g2 g3;go_wp2_with fail;go_quiet (fail);go_wp2_with fail;go_roundw
      case rel=>exact⟨k+1,by omega,by go_num,below_drewN (dp.out.alloc dp.out.size _) _,jq (by rw[HA.out,Oa HS.out HX.out])⟩
      case measure=>simp[intOf] <;> omega
   ·go_wp2_with fail;go_ret;refine⟨ae ?_,hb⟩;rw[HV.out,HA.out,List.drop_of_length_le (by omega)];rfl
 ·have acY:20000<l.length:=by omega
  clear bn;go_enter func53,ntmps53;go_wp2_with fail;go_ret;exact⟨ae (by simp[Np.kN];omega),vQ _ _⟩
end
section
open Go.ChangeShapes Go.WideShapes Go.ChangeAt Go.RowKit
theorem Ku:prog.globalNamed "nameplan/record.rules" = some 0:=by kernel_rfl
theorem SC:(prog.globals[0]?).map (·.type)=some 284:=by kernel_rfl
theorem Rs:prog.cellsOf 283=8:=by kernel_rfl
theorem gO:prog.cellsOf 3=1:=by kernel_rfl
theorem E0:prog.cellsOf 4=1:=by kernel_rfl
def mM:Value->DataW Unit
 | .int k n=>.lit (.int k n)
 | .bool b=>.lit (.bool b)
 | _=>.nil
theorem Wc:(Rows.laid_nameplan_record_rules:DataW Unit) = .agg ((List.range 9).map λ(k:Nat)=>.agg ((g8 (Np.bD k)).toList.map mM)):=by
 rfl
section
variable {w:World} {base:Nat} {spare:Nat->Bool} {held:Bool} {fuel:Nat} {cs:List Value} {p:List MemPlace}
theorem zT{n:Int}(h:DataW.trod (λ_=>()) prog w base spare held fuel 3 cs=some (mM (.int .i64 n),p)):cs = [.int .i64 n]:=by
 obtain⟨m,rfl,hx,_⟩:=DataW.trod_int underlying3 h;simp only[mM,Prod.mk.injEq,DataW.lit.injEq,Lit.int.injEq] at hx;rw[hx.1.2]
theorem GV{b:Bool}(h:DataW.trod (λ_=>()) prog w base spare held fuel 4 cs=some (mM (.bool b),p)):cs = [.bool b]:=by
 obtain⟨m,rfl,hx⟩:=DataW.trod_bool underlying4 h;simp only[mM,Prod.mk.injEq,DataW.lit.injEq,Lit.bool.injEq] at hx;rw[hx.1]
theorem qW{cs:List Value}{o:Nat}{v:Value}(h:(cs.drop o).take 1 = [v]):cs[o]?=some v:=by
 have:=Qd (·[0]?) h
 simpa [List.getElem?_take,List.getElem?_drop] using this
theorem NG{r:Np.Rule}(h:DataW.trod (λ_=>()) prog w base spare held fuel 283 cs=some (.agg ((g8 r).toList.map mM),p)):∀ (j:Nat) (v:Value),(g8 r).toList[j]?=some v->cs[j]?=some v:=by
 obtain⟨ys,n,_,hx,_,hlen,hf⟩:=DataW.trod_struct underlying283 h;simp only[Prod.mk.injEq,DataW.agg.injEq] at hx;have hy:∀ (j:Nat) (v:Value),(g8 r).toList[j]?=some v->∃ q,ys[j]?=some (mM v,q):=λj v hj=>by
  have h1:(ys.map (·.1))[j]?=some (mM v):=by rw[<-hx.1];simp[hj]
  simp only[List.getElem?_map,Option.map_eq_some_iff] at h1;obtain⟨y,qv,nY⟩:=h1;exact⟨y.2,by rw[qv,<-nY]⟩
 intro j v hj;obtain⟨q,hq⟩:=hy j v hj
 match j,hj,hq with
 | 0,hj,hq=>simp[g8] at hj;subst hj;have:DataW.trod (λ_=>()) prog w base spare held n 3 ((cs.drop 0).take (prog.cellsOf 3))=ys[0]?:=hf 0 _ rfl;rw[hq,gO] at this;exact qW (zT this)
 | 1,hj,hq=>simp[g8] at hj;subst hj;have:DataW.trod (λ_=>()) prog w base spare held n 3 ((cs.drop 1).take (prog.cellsOf 3))=ys[1]?:=hf 1 _ rfl;rw[hq,gO] at this;exact qW (zT this)
 | 2,hj,hq=>simp[g8] at hj;subst hj;have:DataW.trod (λ_=>()) prog w base spare held n 3 ((cs.drop 2).take (prog.cellsOf 3))=ys[2]?:=hf 2 _ rfl;rw[hq,gO] at this;exact qW (zT this)
 | 3,hj,hq=>simp[g8] at hj;subst hj;have:DataW.trod (λ_=>()) prog w base spare held n 3 ((cs.drop 3).take (prog.cellsOf 3))=ys[3]?:=hf 3 _ rfl;rw[hq,gO] at this;exact qW (zT this)
 | 4,hj,hq=>simp[g8] at hj;subst hj;have:DataW.trod (λ_=>()) prog w base spare held n 3 ((cs.drop 4).take (prog.cellsOf 3))=ys[4]?:=hf 4 _ rfl;rw[hq,gO] at this;exact qW (zT this)
 | 5,hj,hq=>simp[g8] at hj;subst hj;have:DataW.trod (λ_=>()) prog w base spare held n 4 ((cs.drop 5).take (prog.cellsOf 4))=ys[5]?:=hf 5 _ rfl;rw[hq,E0] at this;exact qW (GV this)
 | 6,hj,hq=>simp[g8] at hj;subst hj;have:DataW.trod (λ_=>()) prog w base spare held n 4 ((cs.drop 6).take (prog.cellsOf 4))=ys[6]?:=hf 6 _ rfl;rw[hq,E0] at this;exact qW (GV this)
 | 7,hj,hq=>simp[g8] at hj;subst hj;have:DataW.trod (λ_=>()) prog w base spare held n 4 ((cs.drop 7).take (prog.cellsOf 4))=ys[7]?:=hf 7 _ rfl;rw[hq,E0] at this;exact qW (GV this)
 | j+8,hj,_=>simp[g8] at hj
end
theorem Yw{W:World}{rest:List (String×DataW Unit)}(h:laidMet prog (("nameplan/record.rules",Rows.laid_nameplan_record_rules)::rest) W):f9 W W.heap.size:=by
 obtain⟨ps,⟨g',t',cs,fuel,p,q,hg',ht',Vb,hd,_,_⟩,_⟩:=h;obtain rfl:=Option.some.inj (Ku.symm.trans hg');obtain rfl:=Option.some.inj (SC.symm.trans ht');rw[Wc] at hd;obtain⟨xs,m,_,hx,_,hlen,hf⟩:=DataW.trod_array underlying284 hd;simp only[Prod.mk.injEq,DataW.agg.injEq] at hx;have hcell:∀ (i:Nat) (v:Value),cs[i]?=some v->W.cell? ⟨0,i,none⟩=some v:=λi v hi=>by rw[World.var?_cell Ku Vb i];exact hi
 refine⟨?_,λk hk j v hj=>?_⟩
 ·have h0:=hf 0 (by omega);obtain⟨x0,bM⟩:∃ x,xs[0]?=some x:=⟨_,aQ (by omega)⟩;rw[bM] at h0;have h1:x0.1 = .agg ((g8 (Np.bD (0:Nat))).toList.map mM):=by
   have:(xs.map (·.1))[0]?=some (.agg ((g8 (Np.bD (0:Nat))).toList.map mM)):=by rw[<-hx.1];rfl
   rw[List.getElem?_map,bM] at this;simpa using this
  rw[show x0=(x0.1,x0.2) from rfl,h1] at h0;have h2:=NG h0 0 _ rfl;simp only[Nat.zero_mul,List.drop_zero,List.getElem?_take] at h2;split at h2
  ·exact World.block_lt_of_cell? _ _ (hcell 0 _ (by simpa using h2))
  ·cases h2
 ·have h0:=hf k hk;obtain⟨x0,bM⟩:∃ x,xs[k]?=some x:=⟨_,aQ (by omega)⟩;rw[bM] at h0;have h1:x0.1 = .agg ((g8 (Np.bD k)).toList.map mM):=by
   have:(xs.map (·.1))[k]?=some (.agg ((g8 (Np.bD k)).toList.map mM)):=by rw[<-hx.1,List.getElem?_map,List.getElem?_range hk];rfl
   rw[List.getElem?_map,bM] at this;simpa using this
  rw[show x0=(x0.1,x0.2) from rfl,h1] at h0;have h2:=NG h0 j v hj;rw[Rs,List.getElem?_take] at h2;split at h2
  ·rw[List.getElem?_drop] at h2;exact hcell _ _ (by simpa using h2)
  ·cases h2
end
section
open Go.RowKit
variable {α:Type}
def Jy(R:afQ α)(B:Nat)(w:World)(f:FuncId)(cap:Array Value)(p:α->Bool)(xs:List α):Prop:=
 ∀ (W:World) (x:α) (e0 e1 e2 e3 e4 e5:Value),x∈xs->Below B w W->B<=W.heap.size->R W B [e0,e1,e2,e3,e4,e5] x->Calls prog f (#[.agg #[e0,e1,e2,e3,e4,e5]]++cap) W λe w'=>e = .returned (.bool (p x))/\Below W.heap.size W w'
theorem VE{R:afQ α}(hK:cL R)(f:FuncId)(eg:∀ args w,(callFunc f args).run prog w = .ok (.enter f args) w)(cap:Array Value)(p:α->Bool)(v:Value)(xs:List α)(w:World)(B:Nat)(hB:B<=w.heap.size)(h:SlR R 6 w B v xs)
 (hp:Jy R B w f cap p xs) :
 Calls prog 232 #[v,.func (.func f) #[] cap] w (aeJ w.heap.size w (.int .i64 (kn p xs))):=by
 have H:=jq h;have HP:=jq hp;obtain⟨A,c,rfl,aW,bh,eO⟩:=h;clear eO hp;go_enter func232,ntmps232;go_wp2_with fail;go_loopw [8] (λi wr=>∃ k:Nat,k<=xs.length/\i = .int .i64 k/\Below w.heap.size w wr/\Hid (∀ x∈xs.take k,p x=false)) (λi _=>xs.length - (intOf i).toNat)
 case atStart=>exact⟨0,jQ _,rfl,vQ _ _,jq (by simp)⟩
 case round=>
  obtain⟨k,hk,rfl,hb,HA⟩:=hrel;by_cases aa:k<xs.length
  ·have bp:=hb.mono hB;obtain⟨A',c',hA',_,_,aC⟩:=H.out.keep hK bp
   cases hA'
   obtain⟨b,o,e,rfl,bq,hlen,hce,hR⟩:=aC k _ (aQ aa)
   match e,hlen with
   | [e0,e1,e2,e3,e4,e5],_=>
   have h0:wr.cell? ⟨b,o+k * 6,none⟩=some e0:=hce 0 _ rfl;have h1:wr.cell? ⟨b,o+k * 6+1,none⟩=some e1:=hce 1 _ rfl;have h2:wr.cell? ⟨b,o+k * 6+2,none⟩=some e2:=hce 2 _ rfl;have h3:wr.cell? ⟨b,o+k * 6+3,none⟩=some e3:=hce 3 _ rfl;have h4:wr.cell? ⟨b,o+k * 6+4,none⟩=some e4:=hce 4 _ rfl;have h5:wr.cell? ⟨b,o+k * 6+5,none⟩=some e5:=hce 5 _ rfl;have bE:=HP.out wr xs[k] e0 e1 e2 e3 e4 e5 (List.getElem_mem aa) bp (by have:=hb.size;omega) hR;have HC:=jq bE;have dp:=jq hb;clear aC hce hR bE bp hb;go_wp2_with (fail);refine HC.out.mono ?_;rintro e w2 ⟨rfl,ab⟩;have ai:=jq ab;clear ab;by_cases aU:p xs[k]=true
   ·have HX:=jq aU;go_wp2_with (fail);go_ret;exact⟨gE (E6 p xs k aa HA.out HX.out).symm,dp.out.trans (ai.out.mono dp.out.size)⟩
   ·have vD:p xs[k]=false:=by simpa using aU
    have HX:=jq vD;clear aU;go_wp2_with (fail);go_roundw
    case rel=>
     refine⟨k+1,by omega,by go_num,dp.out.trans (ai.out.mono dp.out.size),jq ?_⟩;rw[fQ aa];intro x hx;rcases List.mem_append.1 hx with h | h
     ·exact HA.out x h
     ·simp at h;subst h;exact HX.out
    case measure=>simp[intOf] <;> omega
  ·go_wp2_with fail;go_ret;exact⟨gE (E9 p xs (by have:=HA.out;rwa [kQ (by omega)] at this)).symm,hb⟩
theorem RM{R:afQ α}(hK:cL R)(f:FuncId)(eg:∀ args w,(callFunc f args).run prog w = .ok (.enter f args) w)(cap:Array Value)(p:α->Bool)(v:Value)(xs:List α)(w:World)(B:Nat)(hB:B<=w.heap.size)(h:SlR R 6 w B v xs)
 (hp:Jy R B w f cap p xs) :
 Calls prog 153 #[v,.func (.func f) #[] cap] w (aeJ w.heap.size w (.bool (xs.any p))):=by
 have H:=jq h;have HP:=jq hp;have HE:=jq eg;clear h hp eg;go_enter func153,ntmps153;go_wp2_with (go_at_call 232;refine (VE hK f HE.out cap p v xs w B hB H.out HP.out).mono ?_;rintro e w' ⟨rfl,hb⟩);go_ret;exact⟨ae (E8 p xs),hb⟩
end
section
open Go.RowKit Go.Shelf
theorem li(v l m:Int)(w:World) :
 Calls prog 79 #[.agg #[.int .i64 v,.int .i64 l,.int .i64 m]] w (aeJ w.heap.size w (.bool (decide (l<=v)&&decide (v<=m)))):=by
 by_cases h1:l<=v
 all_goals
  go_enter func79,ntmps79;go_wp2;go_ret;exact⟨ae (by simp;omega),(vQ _ _).alloc (bQ _) _⟩
theorem Xf(b1 b2:Nat)(f t:Int)(w:World)(h1:w.cell? ⟨b1,0,none⟩=some (.int .i64 f))(h2:w.cell? ⟨b2,0,none⟩=some (.int .i64 t))(an:b1<w.heap.size)(ab:b2<w.heap.size)(e0 e1 e2 e5:Value)(x y:Int) :
 Calls prog 154 #[.agg #[e0,e1,e2,.int .i64 x,.int .i64 y,e5],.pointer (some ⟨b1,0,none⟩),.pointer (some ⟨b2,0,none⟩)] w (aeJ w.heap.size w (.bool ((x != f)||(y != t)))):=by
 go_enter func154,ntmps154;go_wp2
 all_goals
  go_ret;go_light;refine⟨ae ?_,(vQ _ _).alloc (bQ _) _⟩;simp_all
theorem Xi(s:ByteArray)(hs:s.size<=140737488355328)(ty life:Int)(v u:Value)(ds:List Np.Datum)(gs:List Np.Sig)(w:World)(hR:f9 w w.heap.size)(hd:SlR bW 3 w w.heap.size v ds)(hg:SlR cV 6 w w.heap.size u gs) :
 Calls prog 80 #[.agg #[.string s,.int .i64 ty,.int .i64 life,v,u]] w
  λe w'=>e = .returned (.bool (Np.plain ⟨⟨s.data.toList,ty,life,ds⟩,gs⟩))/\Below w.heap.size w w':=by
 have HR:=jq hR;have HD:=jq hd;have HG:=jq hg;obtain⟨A,c,rfl,aW,bh,eO⟩:=hd;obtain⟨A2,c2,rfl,db,cY,fT⟩:=hg;clear hR eO fT;go_enter func80,ntmps80;go_wp2_with fail;refine (GY s hs ty life _ ds _ ?_ ?_).mono ?_
 ·exact (HR.out.keep ((vQ _ w).alloc (bQ _) _)).more (by simp)
 ·exact (HD.out.keep cu ((vQ _ w).alloc (bQ _) _)).more cS (by simp)
 rintro e w1 ⟨rfl,hb⟩;have br:Below w.heap.size w w1:=((vQ _ w).alloc (bQ _) _).trans (hb.mono (by simp));have bU:w.heap.size<w1.heap.size:=by have:=hb.size;simp at this;omega
 have c4:w1.cell? ⟨w.heap.size,4,none⟩=some (.slice A2 gs.length c2):=by rw[hb.cell (by simp)];go_simp
 clear hb;by_cases hne:gs = []
 ·subst hne;go_wp2_with fail
  all_goals
   go_ret;go_light;refine⟨ae ?_,br⟩;simp_all [Np.plain,Np.lI]
 ·obtain⟨g,gr,rfl⟩:∃ g gr,gs=g::gr:=List.exists_cons_of_ne_nil hne;obtain⟨A',c',hA',_,_,aC⟩:=HG.out.keep cT br
  cases hA'
  obtain⟨b,o,e,rfl,bp,_,hce,zs,kK,Vz,rfl⟩:=aC 0 g rfl;have e3:w1.cell? ⟨b,o+3,none⟩=some (.int .i64 g.frm):=by have:=hce 3 _ rfl;simpa using this
  have e4:w1.cell? ⟨b,o+4,none⟩=some (.int .i64 g.til):=by have:=hce 4 _ rfl;simpa using this
  have bq:b<w1.heap.size:=by omega
  clear hce aC hne kK;go_wp2_with fail
  ·go_ret;go_light;refine⟨ae ?_,br⟩;simp_all [Np.plain]
  ·go_ret;go_light;refine⟨ae ?_,br⟩;have h6:¬ gr.length+1<=6:=by omega
   simp[Np.plain,h6]
  ·have B7:¬ b=w1.heap.size:=by omega
   have agK:¬ w.heap.size=w1.heap.size:=by omega
   have agX:¬ b=w1.heap.size+1:=by omega
   have agY:¬ w.heap.size=w1.heap.size+1:=by omega
   go_region
   all_goals
    go_wp2_with fail
    ·go_ret;go_light;refine⟨ae ?_,Below.drew ((br.alloc (by omega) _).alloc (by simp;omega) _)⟩;simp_all [Np.plain,Np.lI]
    ·go_ret;go_light;refine⟨ae ?_,Below.drew ((br.alloc (by omega) _).alloc (by simp;omega) _)⟩;simp_all [Np.plain,Np.lI]
    ·go_ret;go_light;refine⟨ae ?_,Below.drew ((br.alloc (by omega) _).alloc (by simp;omega) _)⟩;simp_all [Np.plain,Np.lI]
    ·have h1:g.til<=20000000:=by assumption
     have h2:0<=g.frm:=by assumption
     have h3:g.frm<=g.til:=by assumption
     have h4:Np.da ⟨s.data.toList,ty,life,ds⟩=true:=by assumption
     have h5:(gr.length:Int)+1<=6:=by assumption
     have rg:Np.plain ⟨⟨s.data.toList,ty,life,ds⟩,g::gr⟩=!((g::gr).any (Np.ua g)):=by
      go_light;have h6:gr.length+1<=6:=by omega
      have a1:¬ g.frm<0:=by omega
      have a2:¬ g.til<g.frm:=by omega
      have a3:¬ 20000000<g.til:=by omega
      simp[Np.plain,Np.lI,h4,h6,a1,a2,a3]
     have HF:=jq rg;clear rg;refine (RM (R:=cV) cT 154 (enters_of func154 (by kernel_rfl) rfl) _ (Np.ua g) _ (g::gr) _ _ (bQ _) ?_ ?_).mono ?_
     ·exact (HG.out.keep cT (Below.drew ((br.alloc (by omega) _).alloc (by simp;omega) _))).more dU (by simp;omega)
     ·intro W x e0 e1 e2 e3 e4 e5 hx hW rb uT;obtain⟨zz,_,_,Lb⟩:=uT;simp only[List.cons.injEq,and_true] at Lb;obtain⟨rfl,rfl,rfl,rfl,rfl,rfl⟩:=Lb;refine (Xf _ _ g.frm g.til W ?_ ?_ ?_ ?_ _ _ _ _ _ _)
      ·rw[hW.cell (by simp <;> omega)];go_simp
      ·rw[hW.cell (by simp <;> omega)];go_simp
      ·simp at rb;omega
      ·simp at rb;omega
     ·rintro e w2 ⟨rfl,ab⟩;go_wp2_with fail;go_ret;exact⟨ae (by rw[HF.out];simp),(Below.drew ((br.alloc (by omega) _).alloc (by simp;omega) _)).trans (ab.mono (by simp;omega))⟩
def AD{α:Type}(R:afQ α)(sz:Nat)(w:World)(l:List α)(err:Int)(e:Ending)(w':World):Prop:=
 ∃ x,e = .returned (.tuple #[x,.int .i64 err])/\SlR R sz w' w'.heap.size x l/\Below w.heap.size w w'
theorem NZ{α:Type}{R:afQ α}{sz:Nat}(w:World)(B:Nat):SlR R sz w B (.slice none 0 0) []:=⟨none,0,rfl,by simp,by simp,λi x h=>by simp at h⟩
theorem Y9{s:Np.Signed}{drift stop:Int}(he:Np.gG s drift stop=0)(h:Np.nn s drift stop<=Np.nm s drift):Np.fl s drift stop = []:=by
 unfold Np.fl;rw[Qb he,Qb h]
theorem Oi{s:Np.Signed}{drift stop a b:Int}(he:Np.gG s drift stop=0)(h:a<b)(ha:Np.nm s drift=a)(hb:Np.nn s drift stop=b):Np.fl s drift stop = [⟨a,b⟩]:=by
 unfold Np.fl;rw[Qb he,ha,hb,Qc (by omega)]
theorem nG{α:Type}{R:afQ α}{sz:Nat}{w w':World}{l:List α}{err n:Int}(hb:Below w.heap.size w w')(hl:l = [])(he:err=n):AD R sz w l err (.returned (.tuple #[.slice none 0 0,.int .i64 n])) w':=
 ⟨_,by rw[he],by rw[hl];exact NZ _ _,hb⟩
theorem Kz{w w1:World}{l:List Np.Span}{err:Int}{a b:Int}{t:TypeId}(hb:Below w.heap.size w w1)(hl:l = [⟨a,b⟩])(he:err=0) :
 AD cB 2 w l err (.returned (.tuple #[.slice (some ⟨w1.heap.size,0,none⟩) 1 1,.int .i64 0])) (w1.alloc (.cells #[.int .i64 a,.int .i64 b] t)):=by
 refine⟨_,by rw[he],?_,hb.alloc hb.size _⟩;subst hl;refine⟨_,1,rfl,by simp,by simp,λi x hx=>?_⟩
 match i,hx with
 | 0,hx=>
  simp at hx;subst hx;refine⟨w1.heap.size,0,[.int .i64 a,.int .i64 b],rfl,by simp,rfl,λj v hj=>?_,rfl⟩
  have:=World.cell?_alloc_new w1 #[.int .i64 a,.int .i64 b] t j
  simp only[Nat.zero_add,Nat.zero_mul];rw[this,<-hj];simp
 | i+1,hx=>simp at hx
theorem Am(s:ByteArray)(hs:s.size<=140737488355328)(ty life:Int)(v u:Value)(ds:List Np.Datum)(gs:List Np.Sig)(drift stop:Int)(w:World)(hR:f9 w w.heap.size)(hd:SlR bW 3 w w.heap.size v ds)(hg:SlR cV 6 w w.heap.size u gs) :
 Calls prog 37 #[.agg #[.string s,.int .i64 ty,.int .i64 life,v,u],.int .i64 drift,.int .i64 stop] w
  (AD cB 2 w (Np.fl ⟨⟨s.data.toList,ty,life,ds⟩,gs⟩ drift stop) (Np.gG ⟨⟨s.data.toList,ty,life,ds⟩,gs⟩ drift stop)):=by
 have HR:=jq hR;have HD:=jq hd;have HG:=jq hg;obtain⟨A,c,rfl,aW,bh,eO⟩:=hd;obtain⟨A2,c2,rfl,db,cY,fT⟩:=hg;clear hR eO fT;have i0:∀ w,(Instr.index 143 (.agg #[.int .i64 drift,.int .i64 0,.int .i64 1000,.int .i64 stop,.int .i64 1,.int .i64 20000000]) (.int .i64 0)).run prog w = .ok (.agg #[.int .i64 drift,.int .i64 0,.int .i64 1000]) w:=λ_=>by kernel_rfl
 have i1:∀ w,(Instr.index 143 (.agg #[.int .i64 drift,.int .i64 0,.int .i64 1000,.int .i64 stop,.int .i64 1,.int .i64 20000000]) (.int .i64 1)).run prog w = .ok (.agg #[.int .i64 stop,.int .i64 1,.int .i64 20000000]) w:=λ_=>by kernel_rfl
 go_enter func37,ntmps37;go_wp2_with fail;have c0:((w.alloc (.cells #[.string s,.int .i64 ty,.int .i64 life,.slice A ds.length c,.slice A2 gs.length c2] 42)).alloc (.cells #[.int .i64 drift,.int .i64 0,.int .i64 1000,.int .i64 stop,.int .i64 1,.int .i64 20000000] 143)).cell? ⟨w.heap.size,0,none⟩=some (.string s):=by go_simp
 have c1:((w.alloc (.cells #[.string s,.int .i64 ty,.int .i64 life,.slice A ds.length c,.slice A2 gs.length c2] 42)).alloc (.cells #[.int .i64 drift,.int .i64 0,.int .i64 1000,.int .i64 stop,.int .i64 1,.int .i64 20000000] 143)).cell? ⟨w.heap.size,1,none⟩=some (.int .i64 ty):=by go_simp
 have c2':((w.alloc (.cells #[.string s,.int .i64 ty,.int .i64 life,.slice A ds.length c,.slice A2 gs.length c2] 42)).alloc (.cells #[.int .i64 drift,.int .i64 0,.int .i64 1000,.int .i64 stop,.int .i64 1,.int .i64 20000000] 143)).cell? ⟨w.heap.size,2,none⟩=some (.int .i64 life):=by go_simp
 have c3:((w.alloc (.cells #[.string s,.int .i64 ty,.int .i64 life,.slice A ds.length c,.slice A2 gs.length c2] 42)).alloc (.cells #[.int .i64 drift,.int .i64 0,.int .i64 1000,.int .i64 stop,.int .i64 1,.int .i64 20000000] 143)).cell? ⟨w.heap.size,3,none⟩=some (.slice A ds.length c):=by go_simp
 have c4:((w.alloc (.cells #[.string s,.int .i64 ty,.int .i64 life,.slice A ds.length c,.slice A2 gs.length c2] 42)).alloc (.cells #[.int .i64 drift,.int .i64 0,.int .i64 1000,.int .i64 stop,.int .i64 1,.int .i64 20000000] 143)).cell? ⟨w.heap.size,4,none⟩=some (.slice A2 gs.length c2):=by go_simp
 have tj:Below w.heap.size w ((w.alloc (.cells #[.string s,.int .i64 ty,.int .i64 life,.slice A ds.length c,.slice A2 gs.length c2] 42)).alloc (.cells #[.int .i64 drift,.int .i64 0,.int .i64 1000,.int .i64 stop,.int .i64 1,.int .i64 20000000] 143)):=((vQ _ w).alloc (bQ _) _).alloc (by simp) _;have rE:w.heap.size<((w.alloc (.cells #[.string s,.int .i64 ty,.int .i64 life,.slice A ds.length c,.slice A2 gs.length c2] 42)).alloc (.cells #[.int .i64 drift,.int .i64 0,.int .i64 1000,.int .i64 stop,.int .i64 1,.int .i64 20000000] 143)).heap.size:=by simp;omega
 generalize (w.alloc (.cells #[.string s,.int .i64 ty,.int .i64 life,.slice A ds.length c,.slice A2 gs.length c2] 42)).alloc (.cells #[.int .i64 drift,.int .i64 0,.int .i64 1000,.int .i64 stop,.int .i64 1,.int .i64 20000000] 143)=W0 at c0 c1 c2' c3 c4 tj rE |-;have HW:=jq tj;clear tj;go_loopw [19] (λi wr=>∃ k:Nat,k<=2/\i = .int .i64 k/\Below W0.heap.size W0 wr/\(1<=k->0<=drift/\drift<=1000)/\(2<=k->1<=stop/\stop<=20000000)) (λi _=>2 - (intOf i).toNat)
 case atStart=>exact⟨0,by omega,rfl,vQ _ _,by omega,by omega⟩
 case round=>
  obtain⟨k,hk,rfl,bO,h1,h2⟩:=hrel;have HB:=jq bO;have kD:=bO.size;have H1:=jq h1;have H2:=jq h2;clear h1 h2 bO;rcases (by omega:k=0\/k=1\/k=2) with rfl | rfl | rfl
  ·by_cases hd:0<=drift/\drift<=1000
   ·go_wp2_with (go_at_call 79;refine (li _ _ _ _).mono ?_;rintro e w' ⟨rfl,hb⟩);go_roundw
    case rel=>exact⟨1,by omega,rfl,HB.out.trans (((vQ _ wr).alloc (bQ _) _).trans (hb.mono (by simp)) |>.mono kD),λ_=>hd,by omega⟩
    case measure=>simp[intOf] <;> omega
   ·have hd':(decide (0<=drift)&&decide (drift<=1000))=false:=by simp;omega
    go_wp2_with (go_at_call 79;refine (li _ _ _ _).mono ?_;rintro e w' ⟨rfl,hb⟩)
    all_goals first
     | (go_ret2
        have he:Np.gG ⟨⟨s.data.toList,ty,life,ds⟩,gs⟩ drift stop=1:=by rw[Np.gG,Qc (by omega)]
        exact nG (HW.out.trans ((HB.out.trans (((vQ _ wr).alloc (bQ _) _).trans (hb.mono (by simp)) |>.mono kD)).acQ)) (by rw[Np.fl,he];rfl) he)
     | (exfalso;omega)
  ·by_cases hd:1<=stop/\stop<=20000000
   ·go_wp2_with (go_at_call 79;refine (li _ _ _ _).mono ?_;rintro e w' ⟨rfl,hb⟩);go_roundw
    case rel=>exact⟨2,by omega,rfl,HB.out.trans (((vQ _ wr).alloc (bQ _) _).trans (hb.mono (by simp)) |>.mono kD),λ_=>H1.out (by omega),λ_=>hd⟩
    case measure=>simp[intOf] <;> omega
   ·have hd':(decide (1<=stop)&&decide (stop<=20000000))=false:=by simp;omega
    go_wp2_with (go_at_call 79;refine (li _ _ _ _).mono ?_;rintro e w' ⟨rfl,hb⟩)
    all_goals first
     | (go_ret2
        have he:Np.gG ⟨⟨s.data.toList,ty,life,ds⟩,gs⟩ drift stop=1:=by rw[Np.gG,Qc (by omega)]
        exact nG (HW.out.trans ((HB.out.trans (((vQ _ wr).alloc (bQ _) _).trans (hb.mono (by simp)) |>.mono kD)).acQ)) (by rw[Np.fl,he];rfl) he)
     | (exfalso;omega)
  ·obtain⟨fS,iO⟩:=H1.out (by omega);obtain⟨bd,fU⟩:=H2.out (by omega);have d0:wr.cell? ⟨w.heap.size,0,none⟩=some (.string s):=(HB.out.cell rE).trans c0;have d1:wr.cell? ⟨w.heap.size,1,none⟩=some (.int .i64 ty):=(HB.out.cell rE).trans c1;have d2:wr.cell? ⟨w.heap.size,2,none⟩=some (.int .i64 life):=(HB.out.cell rE).trans c2';have d3:wr.cell? ⟨w.heap.size,3,none⟩=some (.slice A ds.length c):=(HB.out.cell rE).trans c3;have d4:wr.cell? ⟨w.heap.size,4,none⟩=some (.slice A2 gs.length c2):=(HB.out.cell rE).trans c4;have yy:Below w.heap.size w wr:=HW.out.trans (HB.out.acQ);clear c0 c1 c2' c3 c4;go_wp2_with fail;refine (Xi s hs ty life _ _ ds gs _ ?_ ?_ ?_).mono ?_
   ·exact (HR.out.keep yy).more (by omega)
   ·exact (HD.out.keep cu yy).more cS (by omega)
   ·exact (HG.out.keep cT yy).more dU (by omega)
   rintro e w1 ⟨rfl,hb⟩;have aqX:=hb.size;have tm:Below w.heap.size w w1:=yy.trans (hb.acQ);have f4:w1.cell? ⟨w.heap.size,4,none⟩=some (.slice A2 gs.length c2):=(hb.cell (by simp;omega)).trans d4;have aL:=jq tm;clear hb yy d0 d1 d2 d3 d4 tm;by_cases hp:Np.plain ⟨⟨s.data.toList,ty,life,ds⟩,gs⟩=true
   ·have he:Np.gG ⟨⟨s.data.toList,ty,life,ds⟩,gs⟩ drift stop=0:=by rw[Np.gG,Qb ⟨fS,iO,bd,fU,hp⟩]
    have HE:=jq he;clear he;by_cases hne:gs = []
    ·subst hne;go_wp2_with fail;go_ret2;exact Kz aL.out (Oi HE.out (by omega) rfl rfl) HE.out
    ·obtain⟨g,gr,rfl⟩:∃ g gr,gs=g::gr:=List.exists_cons_of_ne_nil hne;obtain⟨A',c',hA',_,_,aC⟩:=HG.out.keep cT aL.out
     cases hA'
     obtain⟨b,o,e,rfl,bp,_,hce,zs,kK,Vz,rfl⟩:=aC 0 g rfl;have e3:w1.cell? ⟨b,o+3,none⟩=some (.int .i64 g.frm):=by have:=hce 3 _ rfl;simpa using this
     have e4:w1.cell? ⟨b,o+4,none⟩=some (.int .i64 g.til):=by have:=hce 4 _ rfl;simpa using this
     have eC:Np.lI (g::gr)=true:=by
      simp only[Np.plain,Bool.and_eq_true] at hp;exact hp.2
     have dw:0<=g.frm/\g.frm<=g.til/\g.til<=20000000:=by
      simp only[Np.lI,Bool.and_eq_true,Bool.not_eq_true',Bool.or_eq_false_iff,decide_eq_false_iff_not] at eC;omega
     obtain⟨pZ,yM,lu⟩:=dw;clear hce aC hne kK eC;have hf:Np.nm ⟨⟨s.data.toList,ty,life,ds⟩,g::gr⟩ drift=g.frm+drift:=rfl;have ht:Np.nn ⟨⟨s.data.toList,ty,life,ds⟩,g::gr⟩ drift stop=min stop (g.til - drift+1):=rfl;have HF:=jq hf;have HT:=jq ht;clear hf ht;by_cases hm:g.til - drift+1<stop
     all_goals
      go_wp2_with fail
      ·go_ret2;exact nG aL.out (Y9 HE.out (by rw[HT.out,HF.out];omega)) HE.out
      ·go_ret2;exact Kz aL.out (Oi HE.out (by omega) HF.out (by rw[HT.out];first | done | omega)) HE.out
   ·have hp':Np.plain ⟨⟨s.data.toList,ty,life,ds⟩,gs⟩=false:=by simpa using hp
    have he:Np.gG ⟨⟨s.data.toList,ty,life,ds⟩,gs⟩ drift stop=1:=by rw[Np.gG,Qc (λh=>hp h.2.2.2.2)]
    have HE:=jq he;clear he hp;go_wp2_with fail;go_ret2;exact nG aL.out (by rw[Np.fl,HE.out];rfl) HE.out
end
section
open Go.RowKit Go.Shelf
attribute [local go_sem] Oper.semAt_some
def pd(b k:Int)(j:Nat):List Int:=(List.range j).map λ(i:Nat)=>b+i * k
theorem Ot(b k:Int)(j:Nat):pd b k (j+1)=pd b k j ++ [b+j * k]:=by simp[pd,List.range_succ]
theorem Hm(b s k:Int)(hk:1<=k)(j:Nat):j<(Np.fz b s k).length↔b+j * k<s:=by
 have bL:0<k:=by omega
 simp only[Np.fz,List.length_map,List.length_range];rw[Int.lt_toNat];have h:=Int.le_ediv_iff_mul_le (a:=(j:Int)+1) (b:=s - b+k - 1) bL;rw[Int.add_mul] at h;constructor
 ·intro aa;have:=h.1 (by omega);omega
 ·intro aa;have:=h.2 (by omega);omega
theorem Zo(b s k:Int)(j:Nat)(hj:j<=(Np.fz b s k).length):pd b k j <+: Np.fz b s k:=by
 unfold Np.fz pd at *;simp only[List.length_map,List.length_range] at hj;obtain⟨d,hd⟩:∃ d,((s - b+k - 1) / k).toNat=j+d:=⟨((s - b+k - 1) / k).toNat - j,by omega⟩;rw[hd,List.range_add,List.map_append];exact List.prefix_append _ _
theorem Zm(b s k:Int)(j:Nat)(hj:j=(Np.fz b s k).length):pd b k j=Np.fz b s k:=by
 unfold Np.fz pd at *;simp only[List.length_map,List.length_range] at hj;rw[hj]
def QT(b s k:Int)(bx:Nat)(J:List Int->(Nat->Prop)->World->Prop)(S:Nat->Prop)(W:World)(v:Value)(wr:World):Prop:=
 ∃ (j:Nat) (S1:Nat->Prop),v = .int .i64 (b+j * k)/\j<=(Np.fz b s k).length/\J (pd b k j) S1 wr/\(∀ i,S1 i->i<wr.heap.size)/\¬ S1 bx/\(∀ i,S1 i->S i\/W.heap.size<=i)/\
   wr.heap[bx]?=some (.cells #[.int .i64 b,.int .i64 s,.int .i64 k] 149 (0,0))
theorem Zn(b s k:Int)(hk:1<=k)(ir:k<=20000000)(hb:0<=b)(hs:s<=10000000)(ab:b<=10000000)(n₀:Nat)(w:World) :
 qR prog 83 (λy=>#[.agg #[.int .i64 b,.int .i64 s,.int .i64 k],y]) (λx:Int=>#[.int .i64 x]) (Np.fz b s k) n₀ w:=by
 intro l J Jx S W hW hJ BX hY hS hS' h0;refine callsIn_of_wp func83 rfl trivial ?_ rfl;simp only[ntmps83,List.size_toArray,List.length_cons,List.length_nil,Nat.reduceAdd,Nat.reduceSub,Array.replicate_succ,Array.replicate_zero,List.push_toArray,List.append_toArray,List.nil_append,List.cons_append];gi_wp2_with fail;gi_loopw [4] (λv wr=>QT b s k W.heap.size J S W v wr) (λv _=>(s - intOf v).toNat)
 case atStart=>
  refine⟨0,S,by simp,jQ _,hJ _ _ _ _ h0 (qy _),λi e=>by have:=hS' i e;simp;omega,λe=>by have:=hS' _ e;omega,λ_ e=>.inl e,World.alloc_heap_new W _⟩
 case round=>
  obtain⟨j,S1,rfl,hj,kp,bU,kx,aM,eN⟩:=hrel;have U6:W.heap.size<wr.heap.size:=(eQ.1 eN).1;have b0:wr.cell? ⟨W.heap.size,0,none⟩=some (.int .i64 b):=by simp[World.cell?,eN]
  have b1:wr.cell? ⟨W.heap.size,1,none⟩=some (.int .i64 s):=by simp[World.cell?,eN]
  have b2:wr.cell? ⟨W.heap.size,2,none⟩=some (.int .i64 k):=by simp[World.cell?,eN]
  have g9:=jq eN;clear eN;by_cases aa:b+j * k<s
  ·have jZ:=(Hm b s k hk j).2 aa;have aU:pd b k j ++ [b+j * k] <+: Np.fz b s k:=by rw[<-Ot];exact Zo b s k (j+1) jZ
   obtain⟨fn,tmps,assign,body,hy,hR⟩:=hY (pd b k j) (b+j * k) S1 wr aU kp bU (by omega);have HP:=jq aU;clear aU jZ;have Uz:0<=(j:Int) * k:=Int.mul_nonneg (by omega) (by omega);generalize hq:(j:Int) * k=q at *;have HQ:=jq hq;clear hq;gi_wp2_with fail;refine⟨rfl,hR.mono ?_⟩;rintro e W3 ⟨S3,aA,cK,dH,(⟨rfl,fH⟩ | ⟨rfl,fI⟩)⟩
   ·have yz:=(aA.keep _ U6 kx).trans g9.out;have d0:W3.cell? ⟨W.heap.size,0,none⟩=some (.int .i64 b):=by simp[World.cell?,yz]
    have d1:W3.cell? ⟨W.heap.size,1,none⟩=some (.int .i64 s):=by simp[World.cell?,yz]
    have d2:W3.cell? ⟨W.heap.size,2,none⟩=some (.int .i64 k):=by simp[World.cell?,yz]
    have aB:=jq yz;clear yz;gi_wp2_with fail;go_roundw
    case rel=>
     refine⟨j+1,S3,?_,?_,?_,dH,λe=>?_,λi e=>?_,aB.out⟩
     ·have:((j+1:Nat):Int) * k=q+k:=by rw[<-HQ.out];push_cast;rw[Int.add_mul];omega
      rw[this];congr 1;omega
     ·exact (Hm b s k hk j).2 (by rw[HQ.out];exact aa)
     ·rw[Ot,HQ.out];exact fH
     ·rcases cK _ e with e | e
      ·exact kx e
      ·omega
     ·rcases cK _ e with e | e
      ·exact aM _ e
      ·right;omega
    case measure=>simp[intOf] <;> omega
   ·gi_wp2_with fail;refine bodyPost_ret (results_none rfl _ _ _) rfl ?_;refine⟨⟨_,rfl⟩,.inr ⟨_,S3,HP.out,fI,λi e=>?_⟩⟩;rcases cK _ e with e | e
    ·exact aM _ e
    ·right;omega
  ·have nS:j=(Np.fz b s k).length:=by
    have:=mt (Hm b s k hk j).1 aa
    omega
   have HE:=jq (Zm b s k j nS);clear nS hj;have Uz:0<=(j:Int) * k:=Int.mul_nonneg (by omega) (by omega);generalize hq:(j:Int) * k=q at *;gi_wp2_with fail;go_end0;exact⟨⟨_,rfl⟩,.inl ⟨S1,by rw[<-HE.out];exact kp,aM⟩⟩
end
section
open Go.ChangeShapes Go.WideShapes Go.ChangeAt Go.RowKit Go.Deep
def gM{α:Type}(P:Program)(t:TypeId)(sz:Nat)(R:afQ α):Prop:=
 ∀ (H:Type) (enc:TypeId×Value->H) (W:World) (base:Nat) (spare:Nat->Bool) (held:Bool) (fuel:Nat) (cs:List Value) (d:DataW H) (ps:List MemPlace),
   DataW.trod enc P W base spare held fuel t cs=some (d,ps)->(∀ n∈d.weights P t,n<=reachBytes)->cs.length=sz/\∃ x,R W W.heap.size cs x
def RNum(k:IntKind)(_:World)(_:Nat)(e:List Value)(x:Int):Prop:=e = [.int k x]/\(Lit.int k x).wf=true
theorem jz{P:Program}{t:TypeId}{k:IntKind}(ht:P.underlying t=some (.int k)):gM P t 1 (RNum k):=by
 intro H enc W base spare held fuel cs d ps h _;obtain⟨n,rfl,_,Vh⟩:=DataW.trod_int ht h;exact⟨rfl,n,rfl,Vh⟩
def RStr(_:World)(_:Nat)(e:List Value)(x:List UInt8):Prop:=∃ s:ByteArray,s.data.toList=x/\s.size<=140737488355328/\e = [.string s]
theorem zZ{P:Program}{t:TypeId}(ht:P.underlying t=some .string):gM P t 1 RStr:=by
 intro H enc W base spare held fuel cs d ps h hw;obtain⟨s,rfl,hx,_⟩:=DataW.trod_string ht h;simp only[Prod.mk.injEq] at hx;rw[hx.1] at hw
 have:=hw s.data.toList.length (by simp[DataW.weights])
 have h2:=reachBytes_lt;exact⟨rfl,s.data.toList,s,rfl,by rw[aX] at this;omega,rfl⟩
def RSl{α:Type}(R:afQ α)(sz:Nat)(W:World)(B:Nat)(e:List Value)(xs:List α):Prop:=∃ v,e = [v]/\SlR R sz W B v xs
theorem RSl.kept{α:Type}{R:afQ α}{sz:Nat}(h:cL R):cL (RSl R sz):=λ_ _ _ _ _ ⟨v,hv,hs⟩ hb=>⟨v,hv,hs.keep h hb⟩
theorem RSl.more{α:Type}{R:afQ α}{sz:Nat}(h:dD R):dD (RSl R sz):=λ_ _ _ _ _ ⟨v,hv,hs⟩ hb=>⟨v,hv,hs.more h hb⟩
theorem Oz{H:Type}{P:Program}{e:TypeId} : ∀ {ds:List (DataW H)} {d:DataW H},d∈ds->∀ n∈d.weights P e,n∈DataW.weightsAll P e ds
 | d0::ds,d,hd,n,hn=>by
   simp only[DataW.weightsAll,List.mem_append];rcases List.mem_cons.1 hd with rfl | hd
   ·exact .inl hn
   ·exact .inr (Oz hd n hn)
theorem JG(b o n:Nat):(⟨b,o,none⟩:Addr).add n=⟨b,o+n,none⟩:=by
 unfold Addr.add;split
 ·rename_i h;subst h;rfl
 ·rfl
theorem QZ{W:World}{a:Addr}{v:Value}(h:W.cell? a=some v):a=⟨a.block,a.off,none⟩:=by
 have:=World.cell?_spot h
 cases a;simp_all
theorem vR{α:Type}{P:Program}{t e:TypeId}{sz:Nat}{R:afQ α}(ht:P.underlying t=some (.slice e))(hC:P.cellsOf e=sz)(al:0<sz)(hb:0<P.bytesOf e)(hR:gM P e sz R):gM P t 1 (RSl R sz):=by
 intro H enc W base spare held fuel cs d ps h hw;rcases open_slice ht h with ⟨rfl,_⟩ | ⟨a,len,cap,m,n,D,Pl,rfl,fR,hl,hm,tF,hx,hi⟩
 ·exact⟨rfl,[],_,rfl,none,0,rfl,by simp,by simp,λi x hx=>by simp at hx⟩
 ·simp only[Prod.mk.injEq] at hx;rw[hx.1] at hw;have vp:len<=m:=by rw[tF];split <;> omega
  have hlen:len<=140737488355328:=by
   have:=hw ((((List.range len).map D).length+((List.range (m - len)).map λj=>D (len+j)).length) * P.bytesOf e) (by simp[DataW.weights,ht])
   simp only[List.length_map,List.length_range] at this;have h2:=reachBytes_lt;have h3:len+(m - len)<=(len+(m - len)) * P.bytesOf e:=Nat.le_mul_of_pos_right _ hb;omega
  have aC:∀ i,i<len->∃ x cs',W.cells? base (a.add (i * sz)) sz=some cs'/\cs'.length=sz/\R W W.heap.size cs' x:=λi dB=>by
   obtain⟨cs',hc,U9⟩:=hi i (by omega);rw[hC] at hc;obtain⟨h1,x,h2⟩:=hR H enc W base spare held n cs' (D i) (Pl i) U9 (λk hk=>hw k (by
    simp only[DataW.weights,ht];exact mQ _ (List.mem_append_left _ (Oz (List.mem_map.2 ⟨i,List.mem_range.2 dB,rfl⟩) k hk))))
   exact⟨x,cs',hc,h1,h2⟩
  have aY:∀ k,k<=len->∃ xs:List α,xs.length=k/\∀ i x,xs[i]?=some x->∃ cs',W.cells? base (a.add (i * sz)) sz=some cs'/\cs'.length=sz/\R W W.heap.size cs' x:=by
   intro k
   induction k with
   | zero=>exact λ_=>⟨[],rfl,λi x hx=>by simp at hx⟩
   | succ k ih=>
    intro hk;obtain⟨xs,qu,ml⟩:=ih (by omega);obtain⟨x,hx⟩:=aC k (by omega);refine⟨xs ++ [x],by simp[qu],λi y hy=>?_⟩;rcases Nat.lt_or_ge i xs.length with aa | nR
    ·rw[List.getElem?_append_left aa] at hy;exact ml i y hy
    ·rw[oQ nR] at hy
     have:i - xs.length=0:=by
      have:=(cQ.1 hy).1
      simp at this;omega
     rw[this] at hy;simp at hy;subst hy;rw[show i=k by omega];exact hx
  obtain⟨xs,qu,ml⟩:=aY len (bQ _);refine⟨rfl,xs,_,rfl,some a,cap,by rw[qu],by omega,by omega,λi x hx=>?_⟩;have h0:0<len:=by have:=(cQ.1 hx).1;omega
  obtain⟨c0,FN,ahJ,_⟩:=ml 0 _ (aQ (by omega));obtain⟨_,_,TG⟩:=World.cells?_some FN;have ha:a=⟨a.block,a.off,none⟩:=by
   have h1:=TG 0 al;rw[show (a.add (0 * sz)).add 0=a by simp[Addr.add]] at h1;rw[aQ (by omega)] at h1;exact QZ h1
  obtain⟨cs',hc,im,uT⟩:=ml i x hx;obtain⟨_,_,TF⟩:=World.cells?_some hc;have hce:fZ W a.block (a.off+i * sz) cs':=λj u hj=>by
   have jZ:=(cQ.1 hj).1;have h1:=TF j (by omega);rw[hj,ha] at h1;have h2:((⟨a.block,a.off,none⟩:Addr).add (i * sz)).add j=⟨a.block,a.off+i * sz+j,none⟩:=by
    rw[JG,JG]
   rw[h2] at h1;exact h1
  refine⟨a.block,a.off,cs',by rw[<-ha],?_,im,hce,uT⟩
  have:=World.block_lt_of_cell? W _ (hce 0 _ (aQ (by omega)))
  exact this
theorem rU{P:Program}{t:TypeId}{fs:Array Field}(hs:P.underlying t=some (.struct fs)){H:Type}{enc:TypeId×Value->H}{W:World}{base:Nat}{spare:Nat->Bool}{held:Bool}{fuel:Nat}{cs:List Value}{d:DataW H}{ps:List MemPlace}
 (h:DataW.trod enc P W base spare held fuel t cs=some (d,ps)) (hw:∀ n∈d.weights P t,n<=reachBytes) :
 cs.length=P.cellsOf t/\∀ (j:Nat) (f:Field),fs[j]?=some f->∃ n d' ps',DataW.trod enc P W base spare held n f.type ((cs.drop f.offset).take (P.cellsOf f.type))=some (d',ps')/\∀ k∈d'.weights P f.type,k<=reachBytes:=by
 obtain⟨ys,n,_,hx,hl,hyl,hf⟩:=DataW.trod_struct hs h;simp only[Prod.mk.injEq] at hx;refine⟨hl,λj f hj=>?_⟩;have jZ:j<fs.size:=(eQ.1 hj).1;have h1:=hf j f hj;rw[aQ (by omega)] at h1;refine⟨n,_,_,h1,λk hk=>hw k ?_⟩;rw[hx.1];simp only[DataW.weights,hs];refine DataW.weights_mem_each (j:=j) (t:=f.type) (d:=(ys[j]'(by omega)).1) ?_ ?_ k hk
 ·simp[hj]
 ·simp[aQ (show j<ys.length by omega)]
theorem JS{H:Type}{enc:TypeId×Value->H}{P:Program}(hl:laidOutB P=true){W W':World}(hb:Below W.heap.size W W') :
 ∀ {ts:List TypeId} {vs:List Value} {ds:List (DataW H)} {ps:List MemPlace},(∀ t∈ts,P.readableRec t=true/\t<P.types.size)->DataW.TrodAll enc P W 0 (λ_=>true) true ts vs ds ps->(∀ x∈ps,x.block<W.heap.size)->
   DataW.TrodAll enc P W' 0 (λb=>decide (b<W.heap.size)) true ts vs ds ps
 | [],[],[],_,_,h,_=>h
 | t::ts,v::vs,d::ds,ps,hr,h,aa=>by
   obtain⟨p,q,h1,h2,rfl⟩:=h;have ht:=hr t (by simp);exact⟨p,q,Below.trod hl ht.1 ht.2 h1 hb (λx hx=>aa x (by simp[hx])),JS hl hb (λt ht=>hr t (by simp[ht])) h2 (λx hx=>aa x (by simp[hx])),rfl⟩
 | [],_::_,_,_,_,h,_=>h.elim
 | [],[],_::_,_,_,h,_=>h.elim
 | _::_,[],_,_,_,h,_=>h.elim
 | _::_,_::_,[],_,_,h,_=>h.elim
theorem Wj{H:Type}{enc:TypeId×Value->H}{P:Program}{f:Func}{s:ChangeSpec}{W W':World}{args:Array Value}{v:Value}{ds gs:List (DataW H)}{before:List MemPlace}
 (hl:laidOutB P=true) (hr:∀ t∈f.params.toList,P.readableRec t=true/\t<P.types.size) (eE:s.vars = [])
 (hW:DataW.Whole enc P f.params.toList s.vars false W args.toList ds gs before) (hb:Below W.heap.size W W')
 (qm:∀ (b:Nat) (sp:Nat->Bool) (hd:Bool),DataW.TrodAll enc P W' b sp hd f.resultTypes.toList (v.resultList f.resultTypes.size) (s.fn H (ds++gs)).results [])
 (FG:(s.fn H (ds++gs)).args=ds) (Vc:(s.fn H (ds++gs)).vars = []) :
 s.post enc P f false true false false W args v W':=by
 have aa:=hW.lt;have hW':=hW;obtain⟨p,q,hA,hV,rfl,_,_⟩:=hW;rw[eE] at hV;have hq:q = []:=by
  cases gs with
  | nil=>exact hV
  | cons _ _=>exact hV.elim
 subst hq;refine⟨ds,gs,_,[],p,[],hW',qm _ _ _,?_,?_,World.keptBut_mono (λx hx=>⟨hx,.inr (by simpa using hx)⟩) (hb.frame (·∈p ++ [])),λh=>by cases h⟩
 ·rw[FG];exact JS hl hb hr hA (λx hx=>aa x (by simp[hx]))
 ·rw[Vc,eE];rfl
theorem xR:prog.cellsOf 9=1:=by kernel_rfl
theorem lo:laidOutB prog=true:=by kernel_rfl
end
end Go.Proofs.YtfnopgdcaanaiaaGreatDoor
