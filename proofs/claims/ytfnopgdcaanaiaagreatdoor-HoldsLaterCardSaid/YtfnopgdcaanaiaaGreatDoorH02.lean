/- Parts of the proof. No condition. -/
import Derived.StillTailTactics
import Derived.Test.YtfnopgdcaanaiaaGreatDoorRows
import Derived.ProofKit
import Derived.OpenShut
import Derived.Deep.DeepHandedRow
import Derived.Lib.LaidTab
import Derived.Test.YtfnopgdcaanaiaaGreatDoorH01
set_option linter.all false
set_option maxRecDepth 100000
set_option maxHeartbeats 8000000
namespace Go.Proofs.YtfnopgdcaanaiaaGreatDoor
open Go.Proofs.Tryz
section
open Go.RowKit
theorem GX(x lo hi:Int)(w:World) :
 Calls prog 228 #[.int .i64 x,.int .i64 lo,.int .i64 hi] w λe w'=>e = .returned (.bool (decide (lo<=x)&&decide (x<=hi)))/\w=w':=by
 by_cases h1:lo<=x
 all_goals
  go_enter func228,ntmps228;go_wp2;go_ret;exact⟨ae (by simp;omega),rfl⟩
theorem L7(s:ByteArray)(h:1<=s.size):((s.extract 0 1).toList == [42])=Np.dL s.data.toList:=by
 rw[dQ,AU];unfold Np.dL;have hl:1<=s.data.toList.length:=by rw[aU];exact h
 cases hd:s.data.toList with
 | nil=>rw[hd] at hl;simp at hl
 | cons a r=>rw[Bool.eq_iff_iff];simp
theorem L8(s:ByteArray)(hs:s.size<=140737488355328)(w:World) :
 Calls prog 229 #[.string s] w λe w'=>e = .returned (.bool (Np.dL s.data.toList))/\w=w':=by
 have h1:1<=s.size->((s.extract 0 1).toList == [42])=Np.dL s.data.toList:=L7 s;have h2:s.size<1->Np.dL s.data.toList=false:=λh=>by
  have:s.data.toList = []:=rQ (by rw[aU];omega)
  rw[this];rfl
 have H1:=jq h1;have H2:=jq h2;clear h1 h2;go_enter func229,ntmps229;go_wp2
 ·go_ret;exact⟨ae (H1.out (by omega)),rfl⟩
 ·go_ret;exact⟨ae (H2.out (by omega)).symm,rfl⟩
theorem RG(s t:ByteArray)(w:World) :
 Calls prog 303 #[.string s,.string t] w λe w'=>e = .returned (.int .i64 (Np.bV s.data.toList t.data.toList))/\w=w':=by
 go_enter func303,ntmps303;go_wp2
 ·have h:Op.bytesLess s.toList t.toList=true:=by assumption
  simp only[dQ] at h;go_ret;exact⟨iv (by simp[Np.bV,h]),rfl⟩
 ·have h:Op.bytesLess s.toList t.toList=false:=by assumption
  have h2:(!s.toList == t.toList)=true:=by assumption
  simp only[dQ] at h h2;have h3:¬ s.data.toList=t.data.toList:=by simpa using h2
  go_ret;exact⟨iv (by rw[Np.bV,Qc (by simp[h]),Qc h3]),rfl⟩
 ·have h:Op.bytesLess s.toList t.toList=false:=by assumption
  have h2:(!s.toList == t.toList)=false:=by assumption
  simp only[dQ] at h h2;have h3:s.data.toList=t.data.toList:=by simpa using h2
  go_ret;exact⟨iv (by rw[Np.bV,Qc (by simp[h]),Qb h3]),rfl⟩
theorem xH(s t:Int)(w:World) :
 Calls prog 123 #[.int .i64 s,.int .i64 t] w λe w'=>e = .returned (.int .i64 (Np.bX s t))/\w=w':=by
 go_enter func123,ntmps123;go_wp2
 ·go_ret;exact⟨iv (by rw[Np.bX,Qb ‹_›]),rfl⟩
 ·go_ret;exact⟨iv (by rw[Np.bX,Qc (by omega),Qb ‹_›]),rfl⟩
 ·go_ret;exact⟨iv (by rw[Np.bX,Qc (by omega),Qc (by omega)]),rfl⟩
theorem AY(c:UInt8):Np.mv c=decide ((97<=(c.toNat:Int)/\(c.toNat:Int)<=122)\/(48<=(c.toNat:Int)/\(c.toNat:Int)<=57)\/(c.toNat:Int)=32):=by
 have h:=mK c 32 (by decide);unfold Np.mv Np.oJ Np.l4;rw[show (32:UInt8)=UInt8.ofNat 32 from rfl,h,Bool.eq_iff_iff];simp[UInt8.le_iff_toNat_le];omega
theorem L0(s:ByteArray)(h:(s.size:Int)<1):Np.iY s.data.toList=false:=by
 have:¬ 1<=s.size:=by omega
 simp[Np.iY,this]
theorem L1(s:ByteArray)(h:40<(s.size:Int)):Np.iY s.data.toList=false:=by
 have:¬ s.size<=40:=by omega
 simp[Np.iY,this]
theorem L2(s:ByteArray)(h0:0<s.size)(h:(s[0].toNat:Int)=32):Np.iY s.data.toList=false:=by
 have e:=mK s[0] 32 (by decide);rw[uQ (by simpa using h)] at e;have e2:s[0]=(32:UInt8):=by simpa using e
 simp[Np.iY,yp s h0,e2]
theorem L3(s:ByteArray)(h0:s.size - 1<s.size)(h:(s[s.size - 1].toNat:Int)=32):Np.iY s.data.toList=false:=by
 have e:=mK s[s.size - 1] 32 (by decide);rw[uQ (by simpa using h)] at e;have e2:s[s.size - 1]=(32:UInt8):=by simpa using e
 simp[Np.iY,B5 s h0,e2]
theorem L4(s:ByteArray)(k:Nat)(hk:k<s.size)(h:Np.mv s[k]=false):Np.iY s.data.toList=false:=by
 have:s.data.toList.all Np.mv=false:=by
  rw[List.all_eq_false];exact⟨s[k],by rw[<-cQ.1 (uF s k hk) |>.2];exact List.getElem_mem _,by simp[h]⟩
 simp[Np.iY,this]
theorem L5(s:ByteArray)(h1:1<=s.size)(h2:s.size<=40)(h3:¬ (s[0].toNat:Int)=32)(h4:¬ (s[s.size - 1].toNat:Int)=32)(h5:s.data.toList.all Np.mv=true):Np.iY s.data.toList=true:=by
 have e:=mK s[0] 32 (by decide);have e':=mK s[s.size - 1] 32 (by decide);rw[tQ (by simpa using h3)] at e;rw[tQ (by simpa using h4)] at e';have e2:¬ s[0]=(32:UInt8):=by simpa using e
 have e3:¬ s[s.size - 1]=(32:UInt8):=by simpa using e'
 simp[Np.iY,B5 s (by omega),yp s (by omega),e2,e3,h5,h1,h2]
theorem VO(s:ByteArray)(hs:s.size<=140737488355328)(w:World) :
 Calls prog 301 #[.string s] w λe w'=>e = .returned (.bool (Np.iY s.data.toList))/\w=w':=by
 ·go_enter func301,ntmps301;go_wp2
  rotate_right
  ·go_ret;exact⟨ae (L0 s ‹_›).symm,rfl⟩
  ·go_ret;exact⟨ae (L1 s ‹_›).symm,rfl⟩
  ·go_ret;exact⟨ae (L2 s ‹_› ‹_›).symm,rfl⟩
  ·have h:((s[s.size - 1].toNat:Int) == 32)=true:=by assumption
   go_ret;exact⟨ae (L3 s (by omega) (by simpa using h)).symm,rfl⟩
  ·have h2:(s.size:Int)<=40:=by assumption
   have h3:¬ (s[0].toNat:Int)=32:=by assumption
   have h4:((s[s.size - 1].toNat:Int) == 32)=false:=by assumption
   have H4:=jq h4;clear h4;have H3:=jq h3;go_loop [24] (λi=>∃ k:Nat,k<=s.size/\i = .int .i64 k/\(s.data.toList.take k).all Np.mv=true) (λi=>s.size - (intOf i).toNat)
   case atStart=>exact⟨0,jQ _,rfl,rfl⟩
   case round=>
    obtain⟨k,hk,rfl,ha⟩:=hrel;have HA:=jq ha;clear ha;by_cases aa:k<s.size
    ·have hb:=vS s[k];by_cases hf:(97<=(s[k].toNat:Int)/\(s[k].toNat:Int)<=122)\/(48<=(s[k].toNat:Int)/\(s[k].toNat:Int)<=57)\/(s[k].toNat:Int)=32
     ·have hl:Np.mv s[k]=true:=by rw[AY];exact uQ hf
      have HL:=jq hl;clear hl;go_wp2
      all_goals first
       | (go_round
          case rel=>exact⟨k+1,by omega,by go_num,El s k aa _ HA.out HL.out⟩
          case measure=>simp[intOf] <;> omega)
       | (exfalso
          have hne:((s[k].toNat:Int) != 32)=true:=by assumption
          have yI:=bne_iff_ne.1 hne;omega)
     ·have hl:Np.mv s[k]=false:=by rw[AY];exact tQ hf
      have HL:=jq hl;clear hl;go_wp2
      all_goals first
       | (go_ret;exact⟨ae (L4 s k aa HL.out).symm,rfl⟩)
       | (exfalso;omega)
       | (exfalso
          have hne:((s[k].toNat:Int) != 32)=false:=by assumption
          have yI:(s[k].toNat:Int)=32:=by simpa using hne
          omega)
    ·go_wp2;go_ret;exact⟨ae (L5 s (by omega) (by omega) H3.out (by simpa using H4.out) (by have:=HA.out;rwa [CC s k (by omega)] at this)).symm,rfl⟩
def orI:List Int->Int
 | []=>0
 | x::xs=>if x≠0 then x else orI xs
theorem WZ(xs:List Int)(h:∀ x∈xs,x=0):orI xs=0:=by
 induction xs with
 | nil=>rfl
 | cons x r ih=>rw[orI,Qc (by simp[h x (by simp)])];exact ih (λy hy=>h y (by simp[hy]))
theorem WY(xs:List Int)(k:Nat)(hk:k<xs.length)(h:∀ x∈xs.take k,x=0)(hx:xs[k]≠0):orI xs=xs[k]:=by
 induction xs generalizing k with
 | nil=>simp at hk
 | cons x r ih=>
  cases k with
  | zero=>simp at hx;simp[orI,hx]
  | succ k=>
   have h0:x=0:=h x (by simp);rw[orI,Qc (by simp[h0])];simpa using ih k (by simpa using hk) (λy hy=>h y (by simp[hy])) (by simpa using hx)
theorem RF(b c:Nat)(xs:List Int)(hl:xs.length<=1000)(w:World)(hc:∀ i x,xs[i]?=some x->w.cell? ⟨b,i,none⟩=some (.int .i64 x)) :
 Calls prog 302 #[.slice (some ⟨b,0,none⟩) xs.length c] w λe w'=>e = .returned (.int .i64 (orI xs))/\w=w':=by
 have HC:=jq hc;clear hc;go_enter func302,ntmps302;go_wp2;go_loop [8] (λi=>∃ k:Nat,k<=xs.length/\i = .int .i64 k/\Hid (∀ x∈xs.take k,x=0)) (λi=>xs.length - (intOf i).toNat)
 case atStart=>exact⟨0,jQ _,rfl,jq (by simp)⟩
 case round=>
  obtain⟨k,hk,rfl,HA⟩:=hrel;by_cases aa:k<xs.length
  ·have hcell:w.cell? ⟨b,k,none⟩=some (.int .i64 xs[k]):=HC.out k _ (aQ aa);go_wp2
   ·have hne:(xs[k] != 0)=true:=by assumption
    go_ret;exact⟨iv (WY xs k aa HA.out (by simpa using hne)).symm,rfl⟩
   ·have hne:(xs[k] != 0)=false:=by assumption
    go_round
    case rel=>
     refine⟨k+1,by omega,by go_num,jq ?_⟩;rw[fQ aa];intro x hx;rcases List.mem_append.1 hx with h | h
     ·exact HA.out x h
     ·simp at h;subst h;simpa using hne
    case measure=>simp[intOf] <;> omega
  ·go_wp2;go_ret;exact⟨iv (WZ xs (by have:=HA.out;rwa [kQ (by omega)] at this)).symm,rfl⟩
theorem RE(a b:Np.Datum):Np.og a b=orI [Np.bV a.text b.text,Np.bX a.n b.n,Np.bX a.m b.m]:=by
 simp only[Np.og,orI];split
 ·rfl
 ·split
  ·rfl
  ·split
   ·rfl
   ·rename_i h;simpa using h
theorem RK(s t:ByteArray)(n1 m1 n2 m2:Int)(w:World) :
 Calls prog 231 #[.agg #[.string s,.int .i64 n1,.int .i64 m1],.agg #[.string t,.int .i64 n2,.int .i64 m2]] w
  λe w'=>e = .returned (.int .i64 (Np.og ⟨s.data.toList,n1,m1⟩ ⟨t.data.toList,n2,m2⟩))/\Below w.heap.size w w':=by
 rw[RE];go_enter func231,ntmps231;go_wp2;refine Ow 15 (by kernel_rfl) (by kernel_rfl) ?_;simp only[List.take_succ_cons,List.take_zero,List.drop_succ_cons,List.drop_zero]
 iterate 4 still_step
 still_call (Calls.still_same (RG _ _ _))
 iterate 4 still_step
 still_call (Calls.still_same (xH _ _ _))
 iterate 4 still_step
 still_call (Calls.still_same (xH _ _ _))
 refine wpStill_nil ?_;go_wp2_with fail;refine (RF (w.heap.size+1+1) 3 [Np.bV s.data.toList t.data.toList,Np.bX n1 n2,Np.bX m1 m2] (by simp) _ ?_).mono ?_
 ·intro i x hx
  match i,hx with
  | 0,hx=>simp at hx;subst hx;go_simp
  | 1,hx=>simp at hx;subst hx;go_simp
  | 2,hx=>simp at hx;subst hx;go_simp
  | i+3,hx=>simp at hx
 ·rintro e w' ⟨rfl,rfl⟩;go_wp2_with fail;go_ret;exact⟨rfl,((((vQ _ w).alloc (bQ _) _).alloc (by simp) _).alloc (by simp;omega) _).drew⟩
def g9(r:Np.Rule):Array Value:=#[.int .i64 r.text,.int .i64 r.leastN,.int .i64 r.mostN,.int .i64 r.leastM,.int .i64 r.mostM,.bool r.even,.bool r.single,.bool r.wild]
theorem Zz(k ln mn lm mm:Int)(ev si wi:Bool)(s:ByteArray)(hs:s.size<=140737488355328)(n m:Int)(w:World) :
 Calls prog 230 #[.agg #[.int .i64 k,.int .i64 ln,.int .i64 mn,.int .i64 lm,.int .i64 mm,.bool ev,.bool si,.bool wi],.agg #[.string s,.int .i64 n,.int .i64 m]] w
  λe w'=>e = .returned (.bool (Np.je ⟨k,ln,mn,lm,mm,ev,si,wi⟩ ⟨s.data.toList,n,m⟩))/\Below w.heap.size w w':=by
 go_enter func230,ntmps230;go_wp2_with (first
  | (go_at_call 228;refine (GX _ _ _ _).mono ?_;rintro e w' ⟨rfl,rfl⟩)
  | (go_at_call 105;refine (nameValid_any _ hs _).mono ?_;rintro e w' ⟨rfl,hb⟩;obtain⟨hc,hf⟩:=qJ hb)
  | (go_at_call 229;refine (L8 _ hs _).mono ?_;rintro e w' ⟨rfl,rfl⟩)
  | (go_at_call 301;refine (VO _ hs _).mono ?_;rintro e w' ⟨rfl,rfl⟩))
 all_goals
  go_ret;go_light;refine⟨ae ?_,?_⟩
  ·simp_all [Np.je,Np.tU,dQ] <;> (intros;omega)
  ·first
    | exact ((vQ _ w).alloc (bQ _) _).alloc (by simp) _
    | exact (((vQ _ w).alloc (bQ _) _).alloc (by simp) _).trans (hb.mono (by simp;omega))
def iH(w:World)(B:Nat):Prop:=0<B/\∀ k:Nat,k<9->ag w 0 (k * 8) (g9 (Np.bH k)).toList
theorem iH.keep{w w':World}{B:Nat}(h:iH w B)(hb:Below B w w'):iH w' B:=⟨h.1,λk hk=>(h.2 k hk).keep hb h.1⟩
theorem iH.more{w:World}{B B':Nat}(h:iH w B)(hB:B<=B'):iH w B':=⟨lQ h.1 hB,h.2⟩
def bn(_:World)(_:Nat)(e:List Value)(d:Np.Datum):Prop:=∃ s:ByteArray,s.data.toList=d.text/\s.size<=140737488355328/\e = [.string s,.int .i64 d.n,.int .i64 d.m]
theorem de:cY bn:=λ_ _ _ _ _ h _=>h
theorem eN:dw bn:=λ_ _ _ _ _ h _=>h
theorem Rf{w w':World}(h:w'=w):Below w.heap.size w w':=by rw[h];exact vQ _ _
theorem GV(k ln mn lm mm:Int)(ev si wi:Bool)(s:ByteArray)(hs:s.size<=140737488355328)(n m:Int)(w:World)(t:Bool)(ht:Np.je ⟨k,ln,mn,lm,mm,ev,si,wi⟩ ⟨s.data.toList,n,m⟩=t) :
 Calls prog 230 #[.agg #[.int .i64 k,.int .i64 ln,.int .i64 mn,.int .i64 lm,.int .i64 mm,.bool ev,.bool si,.bool wi],.agg #[.string s,.int .i64 n,.int .i64 m]] w
  λe w'=>e = .returned (.bool t)/\Below w.heap.size w w':=by
 subst ht;exact Zz k ln mn lm mm ev si wi s hs n m w
def QS(w1:World)(o:Obj)(r:Np.Rule)(ds:List Np.Datum)(i:Value)(wr:World):Prop:=
 ∃ j:Nat,j<=ds.length/\i = .int .i64 j/\Below (w1.alloc o).heap.size (w1.alloc o) wr/\Np.ij r none ds=Np.ij r (ds.take j).getLast? (ds.drop j)
theorem M7(s:ByteArray)(hs:s.size<=140737488355328)(ty life:Int)(v:Value)(ds:List Np.Datum)(w:World)(hR:iH w w.heap.size)(hd:SlR bn 3 w w.heap.size v ds) :
 Calls prog 152 #[.agg #[.string s,.int .i64 ty,.int .i64 life,v]] w
  λe w'=>e = .returned (.bool (Np.cW ⟨s.data.toList,ty,life,ds⟩))/\Below w.heap.size w w':=by
 have HR:=jq hR;have HD:=jq hd;obtain⟨A,c,rfl,bw,bT,jy⟩:=hd;clear hR jy;have HF:Hid (∀ t:Bool,t=Np.cW ⟨s.data.toList,ty,life,ds⟩->(.bool t:Value) = .bool (Np.cW ⟨s.data.toList,ty,life,ds⟩)):=λt ht=>by rw[ht]
 go_enter func152,ntmps152;go_wp2_with fail;refine (nameValid_any _ hs _).mono ?_;rintro e w1 ⟨rfl,hb⟩;have cn:Below w.heap.size w w1:=((vQ _ w).alloc (bQ _) _).trans (hb.mono (by simp));have an:w.heap.size+1<=w1.heap.size:=by have:=hb.size;simpa using this
 have du:w.heap.size<w1.heap.size:=by omega
 have c0:w1.cell? ⟨w.heap.size,0,none⟩=some (.string s):=by rw[hb.cell (by simp)];go_simp
 have c1:w1.cell? ⟨w.heap.size,1,none⟩=some (.int .i64 ty):=by rw[hb.cell (by simp)];go_simp
 have c2:w1.cell? ⟨w.heap.size,2,none⟩=some (.int .i64 life):=by rw[hb.cell (by simp)];go_simp
 have c3:w1.cell? ⟨w.heap.size,3,none⟩=some (.slice A ds.length c):=by rw[hb.cell (by simp)];go_simp
 have HB:=jq hb;clear hb;by_cases eK:1<=ty/\ty<=8
 ·obtain⟨k,rfl⟩:=Int.eq_ofNat_of_zero_le (by omega:0<=ty);have Uj:k<9:=by omega
  have pV:=(HR.out.keep cn).2 k Uj;have r0:w1.cell? ⟨0,k * 8,none⟩=some (.int .i64 (Np.bH k).text):=pV 0 _ rfl;have r1:w1.cell? ⟨0,k * 8+1,none⟩=some (.int .i64 (Np.bH k).leastN):=pV 1 _ rfl;have r2:w1.cell? ⟨0,k * 8+2,none⟩=some (.int .i64 (Np.bH k).mostN):=pV 2 _ rfl;have r3:w1.cell? ⟨0,k * 8+3,none⟩=some (.int .i64 (Np.bH k).leastM):=pV 3 _ rfl;have r4:w1.cell? ⟨0,k * 8+4,none⟩=some (.int .i64 (Np.bH k).mostM):=pV 4 _ rfl;have r5:w1.cell? ⟨0,k * 8+5,none⟩=some (.bool (Np.bH k).even):=pV 5 _ rfl;have r6:w1.cell? ⟨0,k * 8+6,none⟩=some (.bool (Np.bH k).single):=pV 6 _ rfl;have r7:w1.cell? ⟨0,k * 8+7,none⟩=some (.bool (Np.bH k).wild):=pV 7 _ rfl;clear pV;go_wp2_with (first
   | (go_at_call 228;refine (GX _ _ _ _).mono ?_;rintro e w' ⟨rfl,rfl⟩)
   | (go_at_call 229;refine (L8 _ hs _).mono ?_;rintro e w' ⟨rfl,rfl⟩))
  all_goals first
   | (go_ret
      go_light;refine⟨ae ?_,by first | exact cn | exact cn.alloc (by omega) _⟩;simp_all [Np.cW] <;> (intros;omega))
   | skip
  all_goals
   have hv:Np.cW ⟨s.data.toList,k,life,ds⟩=Np.ij (Np.bH k) none ds:=by
    go_light;simp_all [Np.cW] <;> (intros;omega)
  rotate_left 3
  all_goals
   have HV:=jq hv;clear hv HF;go_loopw [52] (λi wr=>QS w1 (Obj.cells (g9 (Np.bH k)) 283) (Np.bH k) ds i wr) (λi _=>ds.length - (intOf i).toNat)
   case atStart=>
    refine⟨0,jQ _,rfl,Rf ?_,rfl⟩;go_light;simp_all [g9]
   case round=>
    obtain⟨j,hj,rfl,aG,hg⟩:=hrel;have HG:=jq hg;clear hg;by_cases aa:j<ds.length
    ·have F3:=aG.size;simp only[World.size_alloc] at F3;have kA:Below w.heap.size w wr:=(cn.alloc (by omega) _).trans (aG.mono (by simp;omega));have Vh:w.heap.size<wr.heap.size:=by omega
     have ah:w1.heap.size<wr.heap.size:=by omega
     have d3:wr.cell? ⟨w.heap.size,3,none⟩=some (.slice A ds.length c):=by rw[aG.cell (by simp;omega)];rw[World.cell?_alloc_lt _ _ _ (by simpa using du)];exact c3
     have q0:wr.cell? ⟨w1.heap.size,0,none⟩=some (.int .i64 (Np.bH k).text):=by rw[aG.cell (by simp)];exact World.cell?_alloc_new w1 _ _ _
     have q1:wr.cell? ⟨w1.heap.size,1,none⟩=some (.int .i64 (Np.bH k).leastN):=by rw[aG.cell (by simp)];exact World.cell?_alloc_new w1 _ _ _
     have q2:wr.cell? ⟨w1.heap.size,2,none⟩=some (.int .i64 (Np.bH k).mostN):=by rw[aG.cell (by simp)];exact World.cell?_alloc_new w1 _ _ _
     have q3:wr.cell? ⟨w1.heap.size,3,none⟩=some (.int .i64 (Np.bH k).leastM):=by rw[aG.cell (by simp)];exact World.cell?_alloc_new w1 _ _ _
     have q4:wr.cell? ⟨w1.heap.size,4,none⟩=some (.int .i64 (Np.bH k).mostM):=by rw[aG.cell (by simp)];exact World.cell?_alloc_new w1 _ _ _
     have q5:wr.cell? ⟨w1.heap.size,5,none⟩=some (.bool (Np.bH k).even):=by rw[aG.cell (by simp)];exact World.cell?_alloc_new w1 _ _ _
     have q6:wr.cell? ⟨w1.heap.size,6,none⟩=some (.bool (Np.bH k).single):=by rw[aG.cell (by simp)];exact World.cell?_alloc_new w1 _ _ _
     have q7:wr.cell? ⟨w1.heap.size,7,none⟩=some (.bool (Np.bH k).wild):=by rw[aG.cell (by simp)];exact World.cell?_alloc_new w1 _ _ _
     obtain⟨A',c',hA',_,_,bK⟩:=HD.out.keep de kA
     cases hA'
     obtain⟨b,o,e,rfl,bJ,_,hce,sd,rv,rx,rfl⟩:=bK j _ (aQ aa);have e0:wr.cell? ⟨b,o+j * 3,none⟩=some (.string sd):=hce 0 _ rfl;have e1:wr.cell? ⟨b,o+j * 3+1,none⟩=some (.int .i64 ds[j].n):=hce 1 _ rfl;have e2:wr.cell? ⟨b,o+j * 3+2,none⟩=some (.int .i64 ds[j].m):=hce 2 _ rfl;have cZ:b<wr.heap.size:=by omega
     have aP:=jq aG;have aw:=jq kA;have Dg:=jq bK;have uo:=jq rv;clear hce aG kA bK rv c0 c1 c2 c3 r0 r1 r2 r3 r4 r5 r6 r7;go_wp2_with fail;have p0:=World.cell?_alloc_new wr #[.string sd,.int .i64 ds[j].n,.int .i64 ds[j].m] 128 0;have p1:=World.cell?_alloc_new wr #[.string sd,.int .i64 ds[j].n,.int .i64 ds[j].m] 128 1;have p2:=World.cell?_alloc_new wr #[.string sd,.int .i64 ds[j].n,.int .i64 ds[j].m] 128 2;have keep:∀ b o,b<wr.heap.size->(wr.alloc (.cells #[.string sd,.int .i64 ds[j].n,.int .i64 ds[j].m] 128)).cell? ⟨b,o,none⟩=wr.cell? ⟨b,o,none⟩:=λb o h=>World.cell?_alloc_lt _ _ _ h;have oF:(wr.alloc (.cells #[.string sd,.int .i64 ds[j].n,.int .i64 ds[j].m] 128)).heap.size=wr.heap.size+1:=World.size_alloc _ _;have eF:Below wr.heap.size wr (wr.alloc (.cells #[.string sd,.int .i64 ds[j].n,.int .i64 ds[j].m] 128)):=(vQ _ _).alloc (bQ _) _;generalize wr.alloc (.cells #[.string sd,.int .i64 ds[j].n,.int .i64 ds[j].m] 128)=wx at p0 p1 p2 keep oF eF |-;have dX:w.heap.size<wx.heap.size:=by omega
     have cU:w1.heap.size<wx.heap.size:=by omega
     have mD:wr.heap.size<wx.heap.size:=by omega
     have rE:b<wx.heap.size:=by omega
     have k9:∀ (g:bq wx) (p:Addr),p.block<wx.heap.size->g.w.cell? p=wx.cell? p:=λg p h=>g.cell p h;have gq:=jq eF;clear eF oF;have ym:(⟨sd.data.toList,ds[j].n,ds[j].m⟩:Np.Datum)=ds[j]:=by rw[uo.out]
     have oX:=jq ym;clear ym;by_cases pY:Np.je (Np.bH k) ⟨sd.data.toList,ds[j].n,ds[j].m⟩=true
     ·have jR:=jq pY;clear pY;by_cases iP:j=0
      ·subst iP;refine fG (by kernel_rfl) (by kernel_rfl) ?_
       repeat (go_big_quiet_step ((go_at_call 230;exact Calls.grow_of (GV _ _ _ _ _ _ _ _ _ rx _ _ _ true jR.out))))
       refine wpQuiet_nil ?_;rintro _ ⟨g,rfl⟩;go_wp2_with fail;go_roundw
       case rel=>
        go_light;have h1:=Np.J4 (r:=Np.bH k) (aQ aa) (by rw[<-oX.out];exact jR.out);exact⟨1,aa,by go_num,aP.out.trans ((gq.out.trans (g.below.mono (by omega))).mono (by simp;omega)),by rw[<-h1];exact HG.out⟩
       case measure=>simp[intOf] <;> omega
      ·obtain⟨i,rfl⟩:∃ i,j=i+1:=⟨j - 1,by omega⟩
       try (exfalso;omega)
       all_goals
        obtain⟨b',o',e',nk,yf,_,pB,sq,jE,U5,rfl⟩:=Dg.out i _ (aQ (by omega))
        cases nk
        have f0:wr.cell? ⟨b,o+i * 3,none⟩=some (.string sq):=pB 0 _ rfl;have f1:wr.cell? ⟨b,o+i * 3+1,none⟩=some (.int .i64 (ds[i]'(by omega)).n):=pB 1 _ rfl;have f2:wr.cell? ⟨b,o+i * 3+2,none⟩=some (.int .i64 (ds[i]'(by omega)).m):=pB 2 _ rfl;have yl:(⟨sq.data.toList,(ds[i]'(by omega)).n,(ds[i]'(by omega)).m⟩:Np.Datum)=ds[i]'(by omega):=by rw[jE]
        have Db:=jq yl;clear pB jE yl;refine fG (by kernel_rfl) (by kernel_rfl) ?_
        repeat (go_big_quiet_step (first
         | (go_at_call 230;exact Calls.grow_of (GV _ _ _ _ _ _ _ _ _ rx _ _ _ true jR.out))
         | (go_at_call 231;exact Calls.grow_of (RK _ _ _ _ _ _ _))))
        refine wpQuiet_nil ?_;rintro _ ⟨g,rfl⟩;have h1:=Np.J5 (r:=Np.bH k) (aQ (by omega:i<ds.length)) (aQ aa) (by rw[<-oX.out];exact jR.out);rw[<-oX.out,<-Db.out] at h1;have H1:=jq h1;clear h1;go_wp2_with fail
        ·go_ret;refine⟨ae ?_,aw.out.trans ((gq.out.trans (g.below.mono (by omega))).mono (by omega))⟩;rw[HV.out,HG.out,H1.out,Qc (by omega)]
        ·go_roundw
         case rel=>
          go_light;exact⟨i+1+1,aa,by go_num,aP.out.trans ((gq.out.trans (g.below.mono (by omega))).mono (by simp;omega)),by rw[HG.out,H1.out,Qb (by omega)]⟩
         case measure=>simp[intOf] <;> omega
     ·have y9:Np.je (Np.bH k) ⟨sd.data.toList,ds[j].n,ds[j].m⟩=false:=by simpa using pY
      have jR:=jq y9;clear pY y9;refine fG (by kernel_rfl) (by kernel_rfl) ?_
      repeat (go_big_quiet_step ((go_at_call 230;exact Calls.grow_of (GV _ _ _ _ _ _ _ _ _ rx _ _ _ false jR.out))))
      refine wpQuiet_nil ?_;rintro _ ⟨g,rfl⟩;go_wp2_with fail;go_ret;refine⟨ae ?_,aw.out.trans ((gq.out.trans (g.below.mono (by omega))).mono (by omega))⟩;rw[HV.out,HG.out,Np.J3 (aQ aa) (by rw[<-oX.out];exact jR.out)]
    ·go_wp2_with fail;go_ret;refine⟨ae ?_,(cn.alloc (by omega) _).trans (aG.mono (by simp;omega))⟩;rw[HV.out,HG.out,List.drop_eq_nil_of_le (by omega)];rfl
 ·have hv:Np.cW ⟨s.data.toList,ty,life,ds⟩=false:=by
   simp only[Np.cW]
   have:(decide (1<=ty)&&decide (ty<=8))=false:=by simp;omega
   rw[this];simp
  have HV:=jq hv;clear hv;have aoJ:(decide (1<=ty)&&decide (ty<=8))=false:=by simp;omega
  go_wp2_with (first
   | (go_at_call 228;refine (GX _ _ _ _).mono ?_;rintro e w' ⟨rfl,rfl⟩))
  all_goals
   go_ret;exact⟨ae HV.out.symm,cn⟩
end
section
open Go.ChangeShapes Go.WideShapes Go.ChangeAt Go.RowKit
theorem J2:prog.globalNamed "nameplan/record.rules" = some 0:=by kernel_rfl
theorem SG:(prog.globals[0]?).map (·.type)=some 284:=by kernel_rfl
theorem Rr:prog.cellsOf 283=8:=by kernel_rfl
theorem gE:prog.cellsOf 3=1:=by kernel_rfl
theorem Es:prog.cellsOf 4=1:=by kernel_rfl
def mt:Value->DataW Unit
 | .int k n=>.lit (.int k n)
 | .bool b=>.lit (.bool b)
 | _=>.nil
theorem Wg:(Rows.laid_nameplan_record_rules:DataW Unit) = .agg ((List.range 9).map λ(k:Nat)=>.agg ((g9 (Np.bH k)).toList.map mt)):=by
 rfl
section
variable {w:World} {base:Nat} {spare:Nat->Bool} {held:Bool} {fuel:Nat} {cs:List Value} {p:List MemPlace}
theorem zj{n:Int}(h:DataW.trod (λ_=>()) prog w base spare held fuel 3 cs=some (mt (.int .i64 n),p)):cs = [.int .i64 n]:=by
 obtain⟨m,rfl,hx,_⟩:=DataW.trod_int underlying3 h;simp only[mt,Prod.mk.injEq,DataW.lit.injEq,Lit.int.injEq] at hx;rw[hx.1.2]
theorem Gq{b:Bool}(h:DataW.trod (λ_=>()) prog w base spare held fuel 4 cs=some (mt (.bool b),p)):cs = [.bool b]:=by
 obtain⟨m,rfl,hx⟩:=DataW.trod_bool underlying4 h;simp only[mt,Prod.mk.injEq,DataW.lit.injEq,Lit.bool.injEq] at hx;rw[hx.1]
theorem qL{cs:List Value}{o:Nat}{v:Value}(h:(cs.drop o).take 1 = [v]):cs[o]?=some v:=by
 have:=Qd (·[0]?) h
 simpa [List.getElem?_take,List.getElem?_drop] using this
theorem No{r:Np.Rule}(h:DataW.trod (λ_=>()) prog w base spare held fuel 283 cs=some (.agg ((g9 r).toList.map mt),p)):∀ (j:Nat) (v:Value),(g9 r).toList[j]?=some v->cs[j]?=some v:=by
 obtain⟨ys,n,_,hx,_,hlen,hf⟩:=DataW.trod_struct underlying283 h;simp only[Prod.mk.injEq,DataW.agg.injEq] at hx;have hy:∀ (j:Nat) (v:Value),(g9 r).toList[j]?=some v->∃ q,ys[j]?=some (mt v,q):=λj v hj=>by
  have h1:(ys.map (·.1))[j]?=some (mt v):=by rw[<-hx.1];simp[hj]
  simp only[List.getElem?_map,Option.map_eq_some_iff] at h1;obtain⟨y,p9,lq⟩:=h1;exact⟨y.2,by rw[p9,<-lq]⟩
 intro j v hj;obtain⟨q,hq⟩:=hy j v hj
 match j,hj,hq with
 | 0,hj,hq=>simp[g9] at hj;subst hj;have:DataW.trod (λ_=>()) prog w base spare held n 3 ((cs.drop 0).take (prog.cellsOf 3))=ys[0]?:=hf 0 _ rfl;rw[hq,gE] at this;exact qL (zj this)
 | 1,hj,hq=>simp[g9] at hj;subst hj;have:DataW.trod (λ_=>()) prog w base spare held n 3 ((cs.drop 1).take (prog.cellsOf 3))=ys[1]?:=hf 1 _ rfl;rw[hq,gE] at this;exact qL (zj this)
 | 2,hj,hq=>simp[g9] at hj;subst hj;have:DataW.trod (λ_=>()) prog w base spare held n 3 ((cs.drop 2).take (prog.cellsOf 3))=ys[2]?:=hf 2 _ rfl;rw[hq,gE] at this;exact qL (zj this)
 | 3,hj,hq=>simp[g9] at hj;subst hj;have:DataW.trod (λ_=>()) prog w base spare held n 3 ((cs.drop 3).take (prog.cellsOf 3))=ys[3]?:=hf 3 _ rfl;rw[hq,gE] at this;exact qL (zj this)
 | 4,hj,hq=>simp[g9] at hj;subst hj;have:DataW.trod (λ_=>()) prog w base spare held n 3 ((cs.drop 4).take (prog.cellsOf 3))=ys[4]?:=hf 4 _ rfl;rw[hq,gE] at this;exact qL (zj this)
 | 5,hj,hq=>simp[g9] at hj;subst hj;have:DataW.trod (λ_=>()) prog w base spare held n 4 ((cs.drop 5).take (prog.cellsOf 4))=ys[5]?:=hf 5 _ rfl;rw[hq,Es] at this;exact qL (Gq this)
 | 6,hj,hq=>simp[g9] at hj;subst hj;have:DataW.trod (λ_=>()) prog w base spare held n 4 ((cs.drop 6).take (prog.cellsOf 4))=ys[6]?:=hf 6 _ rfl;rw[hq,Es] at this;exact qL (Gq this)
 | 7,hj,hq=>simp[g9] at hj;subst hj;have:DataW.trod (λ_=>()) prog w base spare held n 4 ((cs.drop 7).take (prog.cellsOf 4))=ys[7]?:=hf 7 _ rfl;rw[hq,Es] at this;exact qL (Gq this)
 | j+8,hj,_=>simp[g9] at hj
end
theorem Yy{W:World}{rest:List (String×DataW Unit)}(h:laidMet prog (("nameplan/record.rules",Rows.laid_nameplan_record_rules)::rest) W):iH W W.heap.size:=by
 obtain⟨ps,⟨g',t',cs,fuel,p,q,hg',ht',Ve,hd,_,_⟩,_⟩:=h;obtain rfl:=Option.some.inj (J2.symm.trans hg');obtain rfl:=Option.some.inj (SG.symm.trans ht');rw[Wg] at hd;obtain⟨xs,m,_,hx,_,hlen,hf⟩:=DataW.trod_array underlying284 hd;simp only[Prod.mk.injEq,DataW.agg.injEq] at hx;have hcell:∀ (i:Nat) (v:Value),cs[i]?=some v->W.cell? ⟨0,i,none⟩=some v:=λi v hi=>by rw[World.var?_cell J2 Ve i];exact hi
 refine⟨?_,λk hk j v hj=>?_⟩
 ·have h0:=hf 0 (by omega);obtain⟨x0,dX⟩:∃ x,xs[0]?=some x:=⟨_,aQ (by omega)⟩;rw[dX] at h0;have h1:x0.1 = .agg ((g9 (Np.bH (0:Nat))).toList.map mt):=by
   have:(xs.map (·.1))[0]?=some (.agg ((g9 (Np.bH (0:Nat))).toList.map mt)):=by rw[<-hx.1];rfl
   rw[List.getElem?_map,dX] at this;simpa using this
  rw[show x0=(x0.1,x0.2) from rfl,h1] at h0;have h2:=No h0 0 _ rfl;simp only[Nat.zero_mul,List.drop_zero,List.getElem?_take] at h2;split at h2
  ·exact World.block_lt_of_cell? _ _ (hcell 0 _ (by simpa using h2))
  ·cases h2
 ·have h0:=hf k hk;obtain⟨x0,dX⟩:∃ x,xs[k]?=some x:=⟨_,aQ (by omega)⟩;rw[dX] at h0;have h1:x0.1 = .agg ((g9 (Np.bH k)).toList.map mt):=by
   have:(xs.map (·.1))[k]?=some (.agg ((g9 (Np.bH k)).toList.map mt)):=by rw[<-hx.1,List.getElem?_map,List.getElem?_range hk];rfl
   rw[List.getElem?_map,dX] at this;simpa using this
  rw[show x0=(x0.1,x0.2) from rfl,h1] at h0;have h2:=No h0 j v hj;rw[Rr,List.getElem?_take] at h2;split at h2
  ·rw[List.getElem?_drop] at h2;exact hcell _ _ (by simpa using h2)
  ·cases h2
end
end Go.Proofs.YtfnopgdcaanaiaaGreatDoor
