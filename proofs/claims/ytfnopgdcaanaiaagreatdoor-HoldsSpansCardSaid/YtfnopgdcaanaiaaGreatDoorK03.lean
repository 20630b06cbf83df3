/- Parts of the proof. No condition. -/
import Derived.Test.YtfnopgdcaanaiaaGreatDoorRows
import Derived.ProofKit
import Derived.OpenShut
import Derived.Deep.DeepHandedRow
import Derived.Lib.LaidTab
import Derived.Test.YtfnopgdcaanaiaaGreatDoorK01
set_option linter.all false
set_option maxRecDepth 100000
set_option maxHeartbeats 8000000
namespace Go.Proofs.YtfnopgdcaanaiaaGreatDoor
open Go.Proofs.Tryz
section
open Go.RowKit
def orI:List Int->Int
 | []=>0
 | x::xs=>if x≠0 then x else orI xs
theorem agY(xs:List Int)(h:∀ x∈xs,x=0):orI xs=0:=by
 induction xs with
 | nil=>rfl
 | cons x r ih=>rw[orI,Qc (by simp[h x (by simp)])];exact ih (λy hy=>h y (by simp[hy]))
theorem agX(xs:List Int)(k:Nat)(hk:k<xs.length)(h:∀ x∈xs.take k,x=0)(hx:xs[k]≠0):orI xs=xs[k]:=by
 induction xs generalizing k with
 | nil=>simp at hk
 | cons x r ih=>
  cases k with
  | zero=>simp at hx;simp[orI,hx]
  | succ k=>
   have h0:x=0:=h x (by simp);rw[orI,Qc (by simp[h0])];simpa using ih k (by simpa using hk) (λy hy=>h y (by simp[hy])) (by simpa using hx)
theorem Vr(b c:Nat)(xs:List Int)(hl:xs.length<=1000)(w:World)(hc:∀ i x,xs[i]?=some x->w.cell? ⟨b,i,none⟩=some (.int .i64 x)) :
 Calls prog 302 #[.slice (some ⟨b,0,none⟩) xs.length c] w λe w'=>e = .returned (.int .i64 (orI xs))/\w=w':=by
 have HC:=jq hc;clear hc;go_enter func302,ntmps302;go_wp2;go_loop [8] (λi=>∃ k:Nat,k<=xs.length/\i = .int .i64 k/\Hid (∀ x∈xs.take k,x=0)) (λi=>xs.length - (intOf i).toNat)
 case atStart=>exact⟨0,jQ _,rfl,jq (by simp)⟩
 case round=>
  obtain⟨k,hk,rfl,HA⟩:=hrel;by_cases aa:k<xs.length
  ·have hcell:w.cell? ⟨b,k,none⟩=some (.int .i64 xs[k]):=HC.out k _ (aQ aa);go_wp2
   ·have hne:(xs[k] != 0)=true:=by assumption
    go_ret;exact⟨ja (agX xs k aa HA.out (by simpa using hne)).symm,rfl⟩
   ·have hne:(xs[k] != 0)=false:=by assumption
    go_round
    case rel=>
     refine⟨k+1,by omega,by go_num,jq ?_⟩;rw[fQ aa];intro x hx;rcases List.mem_append.1 hx with h | h
     ·exact HA.out x h
     ·simp at h;subst h;simpa using hne
    case measure=>simp[intOf] <;> omega
  ·go_wp2;go_ret;exact⟨ja (agY xs (by have:=HA.out;rwa [kQ (by omega)] at this)).symm,rfl⟩
theorem Vq(a b:Np.Datum):Np.pM a b=orI [Np.cm a.text b.text,Np.cr a.n b.n,Np.cr a.m b.m]:=by
 simp only[Np.pM,orI];split
 ·rfl
 ·split
  ·rfl
  ·split
   ·rfl
   ·rename_i h;simpa using h
theorem Vw(s t:ByteArray)(n1 m1 n2 m2:Int)(w:World) :
 Calls prog 231 #[.agg #[.string s,.int .i64 n1,.int .i64 m1],.agg #[.string t,.int .i64 n2,.int .i64 m2]] w
  λe w'=>e = .returned (.int .i64 (Np.pM ⟨s.data.toList,n1,m1⟩ ⟨t.data.toList,n2,m2⟩))/\Below w.heap.size w w':=by
 rw[Vq];go_enter func231,ntmps231;go_wp2;refine RV 15 (by kernel_rfl) (by kernel_rfl) ?_;simp only[List.take_succ_cons,List.take_zero,List.drop_succ_cons,List.drop_zero]
 iterate 4 still_step
 still_call (Calls.still_same (Vs _ _ _))
 iterate 4 still_step
 still_call (Calls.still_same (AD _ _ _))
 iterate 4 still_step
 still_call (Calls.still_same (AD _ _ _))
 refine wpStill_nil ?_;go_wp2_with fail;refine (Vr (w.heap.size+1+1) 3 [Np.cm s.data.toList t.data.toList,Np.cr n1 n2,Np.cr m1 m2] (by simp) _ ?_).mono ?_
 ·intro i x hx
  match i,hx with
  | 0,hx=>simp at hx;subst hx;go_simp
  | 1,hx=>simp at hx;subst hx;go_simp
  | 2,hx=>simp at hx;subst hx;go_simp
  | i+3,hx=>simp at hx
 ·rintro e w' ⟨rfl,rfl⟩;go_wp2_with fail;go_ret;exact⟨rfl,((((vQ _ w).alloc (bQ _) _).alloc (by simp) _).alloc (by simp;omega) _).drew⟩
def iI(r:Np.Rule):Array Value:=#[.int .i64 r.text,.int .i64 r.leastN,.int .i64 r.mostN,.int .i64 r.leastM,.int .i64 r.mostM,.bool r.even,.bool r.single,.bool r.wild]
theorem aFK(k ln mn lm mm:Int)(ev si wi:Bool)(s:ByteArray)(hs:s.size<=140737488355328)(n m:Int)(w:World) :
 Calls prog 230 #[.agg #[.int .i64 k,.int .i64 ln,.int .i64 mn,.int .i64 lm,.int .i64 mm,.bool ev,.bool si,.bool wi],.agg #[.string s,.int .i64 n,.int .i64 m]] w
  λe w'=>e = .returned (.bool (Np.jG ⟨k,ln,mn,lm,mm,ev,si,wi⟩ ⟨s.data.toList,n,m⟩))/\Below w.heap.size w w':=by
 go_enter func230,ntmps230;go_wp2_with (first
  | (go_at_call 228;refine (Kk _ _ _ _).mono ?_;rintro e w' ⟨rfl,rfl⟩)
  | (go_at_call 105;refine (nameValid_any _ hs _).mono ?_;rintro e w' ⟨rfl,hb⟩;obtain⟨hc,hf⟩:=s5 hb)
  | (go_at_call 229;refine (PA _ hs _).mono ?_;rintro e w' ⟨rfl,rfl⟩)
  | (go_at_call 301;refine (ZG _ hs _).mono ?_;rintro e w' ⟨rfl,rfl⟩))
 all_goals
  go_ret;go_light;refine⟨ag ?_,?_⟩
  ·simp_all [Np.jG,Np.xb,dQ] <;> (intros;omega)
  ·first
    | exact ((vQ _ w).alloc (bQ _) _).alloc (by simp) _
    | exact (((vQ _ w).alloc (bQ _) _).alloc (by simp) _).trans (hb.mono (by simp;omega))
def iP(w:World)(B:Nat):Prop:=0<B/\∀ k:Nat,k<9->ai w 0 (k * 8) (iI (Np.bT k)).toList
theorem iP.keep{w w':World}{B:Nat}(h:iP w B)(hb:Below B w w'):iP w' B:=⟨h.1,λk hk=>(h.2 k hk).keep hb h.1⟩
theorem iP.more{w:World}{B B':Nat}(h:iP w B)(hB:B<=B'):iP w B':=⟨lQ h.1 hB,h.2⟩
def bF(_:World)(_:Nat)(e:List Value)(d:Np.Datum):Prop:=∃ s:ByteArray,s.data.toList=d.text/\s.size<=140737488355328/\e = [.string s,.int .i64 d.n,.int .i64 d.m]
theorem cH:dl bF:=λ_ _ _ _ _ h _=>h
theorem du:dJ bF:=λ_ _ _ _ _ h _=>h
theorem U1{w w':World}(h:w'=w):Below w.heap.size w w':=by rw[h];exact vQ _ _
theorem Ke(k ln mn lm mm:Int)(ev si wi:Bool)(s:ByteArray)(hs:s.size<=140737488355328)(n m:Int)(w:World)(t:Bool)(ht:Np.jG ⟨k,ln,mn,lm,mm,ev,si,wi⟩ ⟨s.data.toList,n,m⟩=t) :
 Calls prog 230 #[.agg #[.int .i64 k,.int .i64 ln,.int .i64 mn,.int .i64 lm,.int .i64 mm,.bool ev,.bool si,.bool wi],.agg #[.string s,.int .i64 n,.int .i64 m]] w
  λe w'=>e = .returned (.bool t)/\Below w.heap.size w w':=by
 subst ht;exact aFK k ln mn lm mm ev si wi s hs n m w
def Uz(w1:World)(o:Obj)(r:Np.Rule)(ds:List Np.Datum)(i:Value)(wr:World):Prop:=
 ∃ j:Nat,j<=ds.length/\i = .int .i64 j/\Below (w1.alloc o).heap.size (w1.alloc o) wr/\Np.iR r none ds=Np.iR r (ds.take j).getLast? (ds.drop j)
theorem QH(s:ByteArray)(hs:s.size<=140737488355328)(ty life:Int)(v:Value)(ds:List Np.Datum)(w:World)(hR:iP w w.heap.size)(hd:SlR bF 3 w w.heap.size v ds) :
 Calls prog 152 #[.agg #[.string s,.int .i64 ty,.int .i64 life,v]] w
  λe w'=>e = .returned (.bool (Np.dj ⟨s.data.toList,ty,life,ds⟩))/\Below w.heap.size w w':=by
 have HR:=jq hR;have HD:=jq hd;obtain⟨A,c,rfl,bD,bL,ka⟩:=hd;clear hR ka;have HF:Hid (∀ t:Bool,t=Np.dj ⟨s.data.toList,ty,life,ds⟩->(.bool t:Value) = .bool (Np.dj ⟨s.data.toList,ty,life,ds⟩)):=λt ht=>by rw[ht]
 go_enter func152,ntmps152;go_wp2_with fail;refine (nameValid_any _ hs _).mono ?_;rintro e w1 ⟨rfl,hb⟩;have cC:Below w.heap.size w w1:=((vQ _ w).alloc (bQ _) _).trans (hb.mono (by simp));have ap:w.heap.size+1<=w1.heap.size:=by have:=hb.size;simpa using this
 have dG:w.heap.size<w1.heap.size:=by omega
 have c0:w1.cell? ⟨w.heap.size,0,none⟩=some (.string s):=by rw[hb.cell (by simp)];go_simp
 have c1:w1.cell? ⟨w.heap.size,1,none⟩=some (.int .i64 ty):=by rw[hb.cell (by simp)];go_simp
 have c2:w1.cell? ⟨w.heap.size,2,none⟩=some (.int .i64 life):=by rw[hb.cell (by simp)];go_simp
 have c3:w1.cell? ⟨w.heap.size,3,none⟩=some (.slice A ds.length c):=by rw[hb.cell (by simp)];go_simp
 have HB:=jq hb;clear hb;by_cases dX:1<=ty/\ty<=8
 ·obtain⟨k,rfl⟩:=Int.eq_ofNat_of_zero_le (by omega:0<=ty);have X7:k<9:=by omega
  have rO:=(HR.out.keep cC).2 k X7;have r0:w1.cell? ⟨0,k * 8,none⟩=some (.int .i64 (Np.bT k).text):=rO 0 _ rfl;have r1:w1.cell? ⟨0,k * 8+1,none⟩=some (.int .i64 (Np.bT k).leastN):=rO 1 _ rfl;have r2:w1.cell? ⟨0,k * 8+2,none⟩=some (.int .i64 (Np.bT k).mostN):=rO 2 _ rfl;have r3:w1.cell? ⟨0,k * 8+3,none⟩=some (.int .i64 (Np.bT k).leastM):=rO 3 _ rfl;have r4:w1.cell? ⟨0,k * 8+4,none⟩=some (.int .i64 (Np.bT k).mostM):=rO 4 _ rfl;have r5:w1.cell? ⟨0,k * 8+5,none⟩=some (.bool (Np.bT k).even):=rO 5 _ rfl;have r6:w1.cell? ⟨0,k * 8+6,none⟩=some (.bool (Np.bT k).single):=rO 6 _ rfl;have r7:w1.cell? ⟨0,k * 8+7,none⟩=some (.bool (Np.bT k).wild):=rO 7 _ rfl;clear rO;go_wp2_with (first
   | (go_at_call 228;refine (Kk _ _ _ _).mono ?_;rintro e w' ⟨rfl,rfl⟩)
   | (go_at_call 229;refine (PA _ hs _).mono ?_;rintro e w' ⟨rfl,rfl⟩))
  all_goals first
   | (go_ret
      go_light;refine⟨ag ?_,by first | exact cC | exact cC.alloc (by omega) _⟩;simp_all [Np.dj] <;> (intros;omega))
   | skip
  all_goals
   have hv:Np.dj ⟨s.data.toList,k,life,ds⟩=Np.iR (Np.bT k) none ds:=by
    go_light;simp_all [Np.dj] <;> (intros;omega)
  rotate_left 3
  all_goals
   have HV:=jq hv;clear hv HF;go_loopw [52] (λi wr=>Uz w1 (Obj.cells (iI (Np.bT k)) 283) (Np.bT k) ds i wr) (λi _=>ds.length - (intOf i).toNat)
   case atStart=>
    refine⟨0,jQ _,rfl,U1 ?_,rfl⟩;go_light;simp_all [iI]
   case round=>
    obtain⟨j,hj,rfl,aL,hg⟩:=hrel;have HG:=jq hg;clear hg;by_cases aa:j<ds.length
    ·have Cg:=aL.size;simp only[World.size_alloc] at Cg;have ls:Below w.heap.size w wr:=(cC.alloc (by omega) _).trans (aL.mono (by simp;omega));have Y7:w.heap.size<wr.heap.size:=by omega
     have aj:w1.heap.size<wr.heap.size:=by omega
     have d3:wr.cell? ⟨w.heap.size,3,none⟩=some (.slice A ds.length c):=by rw[aL.cell (by simp;omega)];rw[World.cell?_alloc_lt _ _ _ (by simpa using dG)];exact c3
     have q0:wr.cell? ⟨w1.heap.size,0,none⟩=some (.int .i64 (Np.bT k).text):=by rw[aL.cell (by simp)];exact World.cell?_alloc_new w1 _ _ _
     have q1:wr.cell? ⟨w1.heap.size,1,none⟩=some (.int .i64 (Np.bT k).leastN):=by rw[aL.cell (by simp)];exact World.cell?_alloc_new w1 _ _ _
     have q2:wr.cell? ⟨w1.heap.size,2,none⟩=some (.int .i64 (Np.bT k).mostN):=by rw[aL.cell (by simp)];exact World.cell?_alloc_new w1 _ _ _
     have q3:wr.cell? ⟨w1.heap.size,3,none⟩=some (.int .i64 (Np.bT k).leastM):=by rw[aL.cell (by simp)];exact World.cell?_alloc_new w1 _ _ _
     have q4:wr.cell? ⟨w1.heap.size,4,none⟩=some (.int .i64 (Np.bT k).mostM):=by rw[aL.cell (by simp)];exact World.cell?_alloc_new w1 _ _ _
     have q5:wr.cell? ⟨w1.heap.size,5,none⟩=some (.bool (Np.bT k).even):=by rw[aL.cell (by simp)];exact World.cell?_alloc_new w1 _ _ _
     have q6:wr.cell? ⟨w1.heap.size,6,none⟩=some (.bool (Np.bT k).single):=by rw[aL.cell (by simp)];exact World.cell?_alloc_new w1 _ _ _
     have q7:wr.cell? ⟨w1.heap.size,7,none⟩=some (.bool (Np.bT k).wild):=by rw[aL.cell (by simp)];exact World.cell?_alloc_new w1 _ _ _
     obtain⟨A',c',hA',_,_,bV⟩:=HD.out.keep cH ls
     cases hA'
     obtain⟨b,o,e,rfl,bU,_,hce,sd,tM,tN,rfl⟩:=bV j _ (aQ aa);have e0:wr.cell? ⟨b,o+j * 3,none⟩=some (.string sd):=hce 0 _ rfl;have e1:wr.cell? ⟨b,o+j * 3+1,none⟩=some (.int .i64 ds[j].n):=hce 1 _ rfl;have e2:wr.cell? ⟨b,o+j * 3+2,none⟩=some (.int .i64 ds[j].m):=hce 2 _ rfl;have cK:b<wr.heap.size:=by omega
     have aU:=jq aL;have aB:=jq ls;have Gc:=jq bV;have qZ:=jq tM;clear hce aL ls bV tM c0 c1 c2 c3 r0 r1 r2 r3 r4 r5 r6 r7;go_wp2_with fail;have p0:=World.cell?_alloc_new wr #[.string sd,.int .i64 ds[j].n,.int .i64 ds[j].m] 128 0;have p1:=World.cell?_alloc_new wr #[.string sd,.int .i64 ds[j].n,.int .i64 ds[j].m] 128 1;have p2:=World.cell?_alloc_new wr #[.string sd,.int .i64 ds[j].n,.int .i64 ds[j].m] 128 2;have keep:∀ b o,b<wr.heap.size->(wr.alloc (.cells #[.string sd,.int .i64 ds[j].n,.int .i64 ds[j].m] 128)).cell? ⟨b,o,none⟩=wr.cell? ⟨b,o,none⟩:=λb o h=>World.cell?_alloc_lt _ _ _ h;have qd:(wr.alloc (.cells #[.string sd,.int .i64 ds[j].n,.int .i64 ds[j].m] 128)).heap.size=wr.heap.size+1:=World.size_alloc _ _;have eR:Below wr.heap.size wr (wr.alloc (.cells #[.string sd,.int .i64 ds[j].n,.int .i64 ds[j].m] 128)):=(vQ _ _).alloc (bQ _) _;generalize wr.alloc (.cells #[.string sd,.int .i64 ds[j].n,.int .i64 ds[j].m] 128)=wx at p0 p1 p2 keep qd eR |-;have fl:w.heap.size<wx.heap.size:=by omega
     have eB:w1.heap.size<wx.heap.size:=by omega
     have n9:wr.heap.size<wx.heap.size:=by omega
     have tU:b<wx.heap.size:=by omega
     have tt:∀ (g:bK wx) (p:Addr),p.block<wx.heap.size->g.w.cell? p=wx.cell? p:=λg p h=>g.cell p h;have dw:=jq eR;clear eR qd;have Bp:(⟨sd.data.toList,ds[j].n,ds[j].m⟩:Np.Datum)=ds[j]:=by rw[qZ.out]
     have qB:=jq Bp;clear Bp;by_cases pk:Np.jG (Np.bT k) ⟨sd.data.toList,ds[j].n,ds[j].m⟩=true
     ·have ky:=jq pk;clear pk;by_cases ju:j=0
      ·subst ju;refine f9 (by kernel_rfl) (by kernel_rfl) ?_
       repeat (go_big_quiet_step ((go_at_call 230;exact Calls.grow_of (Ke _ _ _ _ _ _ _ _ _ tN _ _ _ true ky.out))))
       refine wpQuiet_nil ?_;rintro _ ⟨g,rfl⟩;go_wp2_with fail;go_roundw
       case rel=>
        go_light;have h1:=Np.Nf (r:=Np.bT k) (aQ aa) (by rw[<-qB.out];exact ky.out);exact⟨1,aa,by go_num,aU.out.trans ((dw.out.trans (g.below.mono (by omega))).mono (by simp;omega)),by rw[<-h1];exact HG.out⟩
       case measure=>simp[intOf] <;> omega
      ·obtain⟨i,rfl⟩:∃ i,j=i+1:=⟨j - 1,by omega⟩
       try (exfalso;omega)
       all_goals
        obtain⟨b',o',e',oP,Bf,_,ru,sq,kh,YV,rfl⟩:=Gc.out i _ (aQ (by omega))
        cases oP
        have f0:wr.cell? ⟨b,o+i * 3,none⟩=some (.string sq):=ru 0 _ rfl;have f1:wr.cell? ⟨b,o+i * 3+1,none⟩=some (.int .i64 (ds[i]'(by omega)).n):=ru 1 _ rfl;have f2:wr.cell? ⟨b,o+i * 3+2,none⟩=some (.int .i64 (ds[i]'(by omega)).m):=ru 2 _ rfl;have Bo:(⟨sq.data.toList,(ds[i]'(by omega)).n,(ds[i]'(by omega)).m⟩:Np.Datum)=ds[i]'(by omega):=by rw[kh]
        have FZ:=jq Bo;clear ru kh Bo;refine f9 (by kernel_rfl) (by kernel_rfl) ?_
        repeat (go_big_quiet_step (first
         | (go_at_call 230;exact Calls.grow_of (Ke _ _ _ _ _ _ _ _ _ tN _ _ _ true ky.out))
         | (go_at_call 231;exact Calls.grow_of (Vw _ _ _ _ _ _ _))))
        refine wpQuiet_nil ?_;rintro _ ⟨g,rfl⟩;have h1:=Np.Ng (r:=Np.bT k) (aQ (by omega:i<ds.length)) (aQ aa) (by rw[<-qB.out];exact ky.out);rw[<-qB.out,<-FZ.out] at h1;have H1:=jq h1;clear h1;go_wp2_with fail
        ·go_ret;refine⟨ag ?_,aB.out.trans ((dw.out.trans (g.below.mono (by omega))).mono (by omega))⟩;rw[HV.out,HG.out,H1.out,Qc (by omega)]
        ·go_roundw
         case rel=>
          go_light;exact⟨i+1+1,aa,by go_num,aU.out.trans ((dw.out.trans (g.below.mono (by omega))).mono (by simp;omega)),by rw[HG.out,H1.out,Qb (by omega)]⟩
         case measure=>simp[intOf] <;> omega
     ·have Cc:Np.jG (Np.bT k) ⟨sd.data.toList,ds[j].n,ds[j].m⟩=false:=by simpa using pk
      have ky:=jq Cc;clear pk Cc;refine f9 (by kernel_rfl) (by kernel_rfl) ?_
      repeat (go_big_quiet_step ((go_at_call 230;exact Calls.grow_of (Ke _ _ _ _ _ _ _ _ _ tN _ _ _ false ky.out))))
      refine wpQuiet_nil ?_;rintro _ ⟨g,rfl⟩;go_wp2_with fail;go_ret;refine⟨ag ?_,aB.out.trans ((dw.out.trans (g.below.mono (by omega))).mono (by omega))⟩;rw[HV.out,HG.out,Np.Nd (aQ aa) (by rw[<-qB.out];exact ky.out)]
    ·go_wp2_with fail;go_ret;refine⟨ag ?_,(cC.alloc (by omega) _).trans (aL.mono (by simp;omega))⟩;rw[HV.out,HG.out,List.drop_eq_nil_of_le (by omega)];rfl
 ·have hv:Np.dj ⟨s.data.toList,ty,life,ds⟩=false:=by
   simp only[Np.dj]
   have:(decide (1<=ty)&&decide (ty<=8))=false:=by simp;omega
   rw[this];simp
  have HV:=jq hv;clear hv;have a2Z:(decide (1<=ty)&&decide (ty<=8))=false:=by simp;omega
  go_wp2_with (first
   | (go_at_call 228;refine (Kk _ _ _ _).mono ?_;rintro e w' ⟨rfl,rfl⟩))
  all_goals
   go_ret;exact⟨ag HV.out.symm,cC⟩
end
section
open Go.ChangeShapes Go.WideShapes Go.ChangeAt Go.RowKit
theorem Nc:prog.globalNamed "nameplan/record.rules" = some 0:=by kernel_rfl
theorem Wp:(prog.globals[0]?).map (·.type)=some 284:=by kernel_rfl
theorem Vd:prog.cellsOf 283=8:=by kernel_rfl
theorem iv:prog.cellsOf 3=1:=by kernel_rfl
theorem Hn:prog.cellsOf 4=1:=by kernel_rfl
def nM:Value->DataW Unit
 | .int k n=>.lit (.int k n)
 | .bool b=>.lit (.bool b)
 | _=>.nil
theorem Z6:(Rows.laid_nameplan_record_rules:DataW Unit) = .agg ((List.range 9).map λ(k:Nat)=>.agg ((iI (Np.bT k)).toList.map nM)):=by
 rfl
section
variable {w:World} {base:Nat} {spare:Nat->Bool} {held:Bool} {fuel:Nat} {cs:List Value} {p:List MemPlace}
theorem Cq{n:Int}(h:DataW.trod (λ_=>()) prog w base spare held fuel 3 cs=some (nM (.int .i64 n),p)):cs = [.int .i64 n]:=by
 obtain⟨m,rfl,hx,_⟩:=DataW.trod_int underlying3 h;simp only[nM,Prod.mk.injEq,DataW.lit.injEq,Lit.int.injEq] at hx;rw[hx.1.2]
theorem JL{b:Bool}(h:DataW.trod (λ_=>()) prog w base spare held fuel 4 cs=some (nM (.bool b),p)):cs = [.bool b]:=by
 obtain⟨m,rfl,hx⟩:=DataW.trod_bool underlying4 h;simp only[nM,Prod.mk.injEq,DataW.lit.injEq,Lit.bool.injEq] at hx;rw[hx.1]
theorem s9{cs:List Value}{o:Nat}{v:Value}(h:(cs.drop o).take 1 = [v]):cs[o]?=some v:=by
 have:=Qd (·[0]?) h
 simpa [List.getElem?_take,List.getElem?_drop] using this
theorem QX{r:Np.Rule}(h:DataW.trod (λ_=>()) prog w base spare held fuel 283 cs=some (.agg ((iI r).toList.map nM),p)):∀ (j:Nat) (v:Value),(iI r).toList[j]?=some v->cs[j]?=some v:=by
 obtain⟨ys,n,_,hx,_,hlen,hf⟩:=DataW.trod_struct underlying283 h;simp only[Prod.mk.injEq,DataW.agg.injEq] at hx;have hy:∀ (j:Nat) (v:Value),(iI r).toList[j]?=some v->∃ q,ys[j]?=some (nM v,q):=λj v hj=>by
  have h1:(ys.map (·.1))[j]?=some (nM v):=by rw[<-hx.1];simp[hj]
  simp only[List.getElem?_map,Option.map_eq_some_iff] at h1;obtain⟨y,rV,mg⟩:=h1;exact⟨y.2,by rw[rV,<-mg]⟩
 intro j v hj;obtain⟨q,hq⟩:=hy j v hj
 match j,hj,hq with
 | 0,hj,hq=>simp[iI] at hj;subst hj;have:DataW.trod (λ_=>()) prog w base spare held n 3 ((cs.drop 0).take (prog.cellsOf 3))=ys[0]?:=hf 0 _ rfl;rw[hq,iv] at this;exact s9 (Cq this)
 | 1,hj,hq=>simp[iI] at hj;subst hj;have:DataW.trod (λ_=>()) prog w base spare held n 3 ((cs.drop 1).take (prog.cellsOf 3))=ys[1]?:=hf 1 _ rfl;rw[hq,iv] at this;exact s9 (Cq this)
 | 2,hj,hq=>simp[iI] at hj;subst hj;have:DataW.trod (λ_=>()) prog w base spare held n 3 ((cs.drop 2).take (prog.cellsOf 3))=ys[2]?:=hf 2 _ rfl;rw[hq,iv] at this;exact s9 (Cq this)
 | 3,hj,hq=>simp[iI] at hj;subst hj;have:DataW.trod (λ_=>()) prog w base spare held n 3 ((cs.drop 3).take (prog.cellsOf 3))=ys[3]?:=hf 3 _ rfl;rw[hq,iv] at this;exact s9 (Cq this)
 | 4,hj,hq=>simp[iI] at hj;subst hj;have:DataW.trod (λ_=>()) prog w base spare held n 3 ((cs.drop 4).take (prog.cellsOf 3))=ys[4]?:=hf 4 _ rfl;rw[hq,iv] at this;exact s9 (Cq this)
 | 5,hj,hq=>simp[iI] at hj;subst hj;have:DataW.trod (λ_=>()) prog w base spare held n 4 ((cs.drop 5).take (prog.cellsOf 4))=ys[5]?:=hf 5 _ rfl;rw[hq,Hn] at this;exact s9 (JL this)
 | 6,hj,hq=>simp[iI] at hj;subst hj;have:DataW.trod (λ_=>()) prog w base spare held n 4 ((cs.drop 6).take (prog.cellsOf 4))=ys[6]?:=hf 6 _ rfl;rw[hq,Hn] at this;exact s9 (JL this)
 | 7,hj,hq=>simp[iI] at hj;subst hj;have:DataW.trod (λ_=>()) prog w base spare held n 4 ((cs.drop 7).take (prog.cellsOf 4))=ys[7]?:=hf 7 _ rfl;rw[hq,Hn] at this;exact s9 (JL this)
 | j+8,hj,_=>simp[iI] at hj
end
theorem avZ{W:World}{rest:List (String×DataW Unit)}(h:laidMet prog (("nameplan/record.rules",Rows.laid_nameplan_record_rules)::rest) W):iP W W.heap.size:=by
 obtain⟨ps,⟨g',t',cs,fuel,p,q,hg',ht',Y4,hd,_,_⟩,_⟩:=h;obtain rfl:=Option.some.inj (Nc.symm.trans hg');obtain rfl:=Option.some.inj (Wp.symm.trans ht');rw[Z6] at hd;obtain⟨xs,m,_,hx,_,hlen,hf⟩:=DataW.trod_array underlying284 hd;simp only[Prod.mk.injEq,DataW.agg.injEq] at hx;have hcell:∀ (i:Nat) (v:Value),cs[i]?=some v->W.cell? ⟨0,i,none⟩=some v:=λi v hi=>by rw[World.var?_cell Nc Y4 i];exact hi
 refine⟨?_,λk hk j v hj=>?_⟩
 ·have h0:=hf 0 (by omega);obtain⟨x0,fl⟩:∃ x,xs[0]?=some x:=⟨_,aQ (by omega)⟩;rw[fl] at h0;have h1:x0.1 = .agg ((iI (Np.bT (0:Nat))).toList.map nM):=by
   have:(xs.map (·.1))[0]?=some (.agg ((iI (Np.bT (0:Nat))).toList.map nM)):=by rw[<-hx.1];rfl
   rw[List.getElem?_map,fl] at this;simpa using this
  rw[show x0=(x0.1,x0.2) from rfl,h1] at h0;have h2:=QX h0 0 _ rfl;simp only[Nat.zero_mul,List.drop_zero,List.getElem?_take] at h2;split at h2
  ·exact World.block_lt_of_cell? _ _ (hcell 0 _ (by simpa using h2))
  ·cases h2
 ·have h0:=hf k hk;obtain⟨x0,fl⟩:∃ x,xs[k]?=some x:=⟨_,aQ (by omega)⟩;rw[fl] at h0;have h1:x0.1 = .agg ((iI (Np.bT k)).toList.map nM):=by
   have:(xs.map (·.1))[k]?=some (.agg ((iI (Np.bT k)).toList.map nM)):=by rw[<-hx.1,List.getElem?_map,List.getElem?_range hk];rfl
   rw[List.getElem?_map,fl] at this;simpa using this
  rw[show x0=(x0.1,x0.2) from rfl,h1] at h0;have h2:=QX h0 j v hj;rw[Vd,List.getElem?_take] at h2;split at h2
  ·rw[List.getElem?_drop] at h2;exact hcell _ _ (by simpa using h2)
  ·cases h2
end
end Go.Proofs.YtfnopgdcaanaiaaGreatDoor
