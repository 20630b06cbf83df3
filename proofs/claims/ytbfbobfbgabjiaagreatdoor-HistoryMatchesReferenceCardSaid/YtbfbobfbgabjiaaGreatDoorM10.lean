/- Parts of the proof. No condition. -/
import Derived.Laws.StructEq
import Derived.Shelf.Strings.Builder1
import Derived.Shelf.Strings.Builder2
import Derived.Shelf.Strings.OnBuilder
import Derived.Shelf.Small.Bits
import Derived.Shelf.Small.Strs
import Derived.Shelf.Strconv.Itoa0
import Derived.Shelf.Strconv.Itoa1
import Derived.Shelf.LaysM
import Derived.Shelf.Strconv.Itoa2
import Derived.Shelf.Strconv.Itoa3
import Derived.Shelf.Strings.Search1
import Derived.Shelf.Strings.LastIndex
import Derived.Shelf.Strings.Prefix
import Derived.Ground.SlsfProg
import Derived.Shelf.SlSortCmp.Insertion
import Derived.Shelf.SlSortCmp.SiftDown1
import Derived.Shelf.SlSortCmp.HeapSort1
import Derived.Shelf.SlSortCmp.Insertion1
import Derived.Shelf.SlSortCmp.Median1
import Derived.Shelf.SlSortCmp.Pivot1
import Derived.Shelf.SlSortCmp.ReverseRange1
import Derived.Shelf.SlSortCmp.PartialInsertion1
import Derived.Shelf.SlSortCmp.PartitionEqual1
import Derived.Shelf.SlSortCmp.Partition1
import Derived.Shelf.SlSortCmp.Pdq1
import Derived.Shelf.SlSortCmp.Whole1
import Derived.Shelf.SlSortCmp.NoneTotal
import Derived.Test.YtbfbobfbgabjiaaGreatDoorProg
import Derived.Shelf.SlicesE.Clone
import Derived.Ground.SlgnProg
import Derived.Shelf.SlGeneric
import Derived.Shelf.SlSortCmp.WholeK
import Derived.Test.YtbfbobfbgabjiaaGreatDoorRows
import Derived.ProofKit
import Derived.OpenShut
import Derived.Deep.DeepHandedRow
import Derived.Lib.LaidTab
import Derived.Test.YtbfbobfbgabjiaaGreatDoorM08
set_option linter.all false
set_option maxRecDepth 100000
set_option maxHeartbeats 8000000
namespace Go.Proofs.YtbfbobfbgabjiaaGreatDoor
open Go.Proofs.Tryz
section
open Go.RowKit
theorem XF(a b:ByteArray)(n m p q:Int)(w:World):(binOp .neq 96 (.agg #[.string a,.int .i64 n,.int .i64 m]) (.agg #[.string b,.int .i64 p,.int .i64 q])).run prog w = .ok (.bool (!(a.toList == b.toList&&(n == p&&m == q)))) w:=by
 have u3:=underlying3;have a3:=isAgg3;have z3:=sizeOf3;have u9:=underlying9;have a9:=isAgg9;have z9:=sizeOf9;have hS:prog.underlying 96=some (.struct (prog.fieldsOf 96)):=by kernel_rfl
 have hp:prog.stoodInHeld 96=false:=by kernel_rfl
 rw[run_neq_struct,show (10000:Nat)=9999+1 from rfl,run_equalIn_agg w 9999 96 _ _ hS hp];simp only[Program.fieldsOf,underlying96];go_simp;by_cases h0:a.toList=b.toList <;> by_cases h1:n=p <;> by_cases h2:m=q <;> simp[h0,h1,h2]
theorem Yd{d x:Np.Datum}{a b:ByteArray}(ha:a.data.toList=d.text)(hb:b.data.toList=x.text):(!(a.toList == b.toList&&(d.n == x.n&&d.m == x.m)))=decide (d≠x):=by
 rw[dQ,dQ,ha,hb,Bool.eq_iff_iff];simp only[Bool.not_eq_true',Bool.and_eq_false_iff,beq_eq_false_iff_ne,Qa];obtain⟨t,n,m⟩:=d;obtain⟨t2,n2,m2⟩:=x;simp only[ne_eq,Np.Datum.mk.injEq,not_and];constructor
 ·rintro (h | h | h) rfl rfl
  ·exact absurd rfl h
  ·exact absurd rfl h
  ·exact h
 ·intro h;by_cases h1:t=t2
  ·by_cases h2:n=n2
   ·exact .inr (.inr (h h1 h2))
   ·exact .inr (.inl h2)
  ·exact .inl h1
theorem WZ{α:Type}{xs ys:List α}{k:Nat}(h1:k<xs.length)(h2:k<ys.length)(h:xs.take k=ys.take k)(he:xs[k]=ys[k]):xs.take (k+1)=ys.take (k+1):=by
 rw[fQ h1,fQ h2,h,he]
theorem Yf{α:Type}{xs ys:List α}{k:Nat}(hl:xs.length=ys.length)(hk:¬ k<xs.length)(h:xs.take k=ys.take k):xs=ys:=by
 rwa [kQ (by omega),kQ (by omega)] at h
theorem MF(s1 s2:ByteArray)(t1 l1 t2 l2:Int)(v1 v2:Value)(d1 d2:List Np.Datum)(w:World)(eI:SlR cG 3 w w.heap.size v1 d1)(kA:SlR cG 3 w w.heap.size v2 d2) :
 Calls prog 62 #[.agg #[.string s1,.int .i64 t1,.int .i64 l1,v1],.agg #[.string s2,.int .i64 t2,.int .i64 l2,v2]] w
  λe w'=>e = .returned (.bool (decide (s1=s2/\t1=t2/\l1=l2/\d1=d2)))/\Below w.heap.size w w':=by
 obtain⟨r,hr⟩:∃ r,decide (s1=s2/\t1=t2/\l1=l2/\d1=d2)=r:=⟨_,rfl⟩;rw[hr];have HR:=jq hr;have BU:=jq eI;have ia:=jq kA;obtain⟨A1,c1,rfl,bC,bH⟩:=ag eI;obtain⟨A2,c2,rfl,eB,dz⟩:=ag kA;have iK:Below w.heap.size w ((w.alloc (.cells #[.string s1,.int .i64 t1,.int .i64 l1,.slice A1 d1.length c1] 26)).alloc (.cells #[.string s2,.int .i64 t2,.int .i64 l2,.slice A2 d2.length c2] 26)):=((vQ _ _).alloc (bQ _) _).alloc (by simp) _;have br:=jq iK;clear hr eI kA iK;have uJ:∀ x y:Int,(x != y)=decide (x≠y):=λx y=>by by_cases h:x=y <;> simp[h]
 by_cases h1:s1=s2
 case neg=>
  have h1':¬ s1.toList=s2.toList:=λe=>h1 (iV (by rw[<-dQ,<-dQ]; exact e));have HF:=jq (show r=false by rw[<-HR.out]; simp[h1]);clear h1 uJ;go_enter func62,ntmps62;go_wp2_with fail;go_ret;exact⟨aj HF.out.symm,br.out⟩
 case pos=>
  subst h1;by_cases h2:t1=t2
  case neg=>
   have h2':(t1 != t2)=true:=by simpa using h2
   have HF:=jq (show r=false by rw[<-HR.out]; simp[h2]);clear h2 uJ;go_enter func62,ntmps62;go_wp2_with fail;go_ret;exact⟨aj HF.out.symm,br.out⟩
  case pos=>
   subst h2;by_cases h3:l1=l2
   case neg=>
    have h3':(l1 != l2)=true:=by simpa using h3
    have HF:=jq (show r=false by rw[<-HR.out]; simp[h3]);clear h3 uJ;go_enter func62,ntmps62;go_wp2_with fail;go_ret;exact⟨aj HF.out.symm,br.out⟩
   case pos=>
    subst h3;by_cases h4:d1.length=d2.length
    case neg=>
     have h4':((d1.length:Int) != (d2.length:Int))=true:=by rw[uJ]; simp; omega
     have HF:=jq (show r=false by rw[<-HR.out]; simp; intro e; exact h4 (by rw[e]));clear h4 uJ;go_enter func62,ntmps62;go_wp2_with fail;go_ret;exact⟨aj HF.out.symm,br.out⟩
    case pos=>
     have h4':((d1.length:Int) != (d2.length:Int))=false:=by rw[uJ]; simp; omega
     have HL:=jq h4;clear h4 uJ;go_enter func62,ntmps62;go_wp2_with fail;have ae:((w.alloc (.cells #[.string s1,.int .i64 t1,.int .i64 l1,.slice A1 d1.length c1] 26)).alloc (.cells #[.string s1,.int .i64 t1,.int .i64 l1,.slice A2 d2.length c2] 26)).heap.size=w.heap.size+1+1:=by simp
     have q1:((w.alloc (.cells #[.string s1,.int .i64 t1,.int .i64 l1,.slice A1 d1.length c1] 26)).alloc (.cells #[.string s1,.int .i64 t1,.int .i64 l1,.slice A2 d2.length c2] 26)).cell? ⟨w.heap.size,3,none⟩=some (.slice A1 d1.length c1):=by simp[go_sem]
     have q2:((w.alloc (.cells #[.string s1,.int .i64 t1,.int .i64 l1,.slice A1 d1.length c1] 26)).alloc (.cells #[.string s1,.int .i64 t1,.int .i64 l1,.slice A2 d2.length c2] 26)).cell? ⟨w.heap.size+1,3,none⟩=some (.slice A2 d2.length c2):=by simp[go_sem]
     generalize sm:((w.alloc (.cells #[.string s1,.int .i64 t1,.int .i64 l1,.slice A1 d1.length c1] 26)).alloc (.cells #[.string s1,.int .i64 t1,.int .i64 l1,.slice A2 d2.length c2] 26))=wa at *;have HQ:=jq (And.intro q1 (And.intro q2 ae));clear sm q1 q2 ae;go_loopw [5] (λi wr=>∃ k:Nat,k<=d1.length/\i = .int .i64 k/\Hid (d1.take k=d2.take k)/\Hid (Below wa.heap.size wa wr)) (λi _=>d1.length - (intOf i).toNat)
     case atStart=>exact⟨0,jQ _,rfl,jq rfl,jq (vQ _ _)⟩
     case round=>
      obtain⟨k,hk,rfl,HN,HB⟩:=hrel;have aw:=br.out.trans (HB.out.mono br.out.size);have sB:=HQ.out;have g1:=(cl HB.out (by omega)).trans sB.1;have g2:=(cl HB.out (by omega)).trans sB.2.1;clear sB;by_cases ab:k<d1.length
      ·have qU:k<d2.length:=by have:=HL.out; omega
       obtain⟨b,o,c',s,hv,cD,_,aZ,_,e0,e1,e2⟩:=Hs BU.out (aQ ab);simp only[Value.slice.injEq,true_and] at hv;obtain⟨rfl,rfl⟩:=hv;obtain⟨b',o',c'',s',hv,zk,_,b7,_,f0,f1,f2⟩:=Hs ia.out (aQ qU);simp only[Value.slice.injEq,true_and] at hv;obtain⟨rfl,rfl⟩:=hv;have HT:=jq (WZ ab qU HN.out);have mw:=jq (show d1[k]≠d2[k]->r=false from λhne=>by rw[<-HR.out]; simp; intro e; subst e; exact hne rfl);generalize d1[k]=x at *;generalize d2[k]=y at *;replace e0:=(aw.cell (p:=⟨b,o+k * 3,none⟩) cD).trans e0;replace e1:=(aw.cell (p:=⟨b,o+k * 3+1,none⟩) cD).trans e1;replace e2:=(aw.cell (p:=⟨b,o+k * 3+2,none⟩) cD).trans e2;replace f0:=(aw.cell (p:=⟨b',o'+k * 3,none⟩) zk).trans f0;replace f1:=(aw.cell (p:=⟨b',o'+k * 3+1,none⟩) zk).trans f1;replace f2:=(aw.cell (p:=⟨b',o'+k * 3+2,none⟩) zk).trans f2;have bW:(0:Int)<=(k:Int):=by omega
       have bV:(k:Int)<(d1.length:Int):=by omega
       have kW:(k:Int)<(d2.length:Int):=by omega
       have heq:=XF s s' x.n x.m y.n y.m;rw[Yd aZ b7] at heq;clear aw aZ b7;by_cases hx:x=y
       ·have HX:=jq hx;have kY:decide (x≠y)=false:=by simpa using hx
        rw[kY] at heq;clear hx kY;go_wp2_with fail;go_quiet (fail);go_wp2_with fail;go_roundw
        case rel=>exact⟨k+1,by omega,by go_num,jq (HT.out HX.out),jq (below_drewN HB.out _)⟩
        case measure=>simp[intOf] <;> omega
       ·have HX:=jq hx;have kY:decide (x≠y)=true:=by simpa using hx
        rw[kY] at heq;clear hx kY;go_wp2_with fail;go_quiet (fail);go_wp2_with fail;go_ret;exact⟨aj (mw.out HX.out).symm,below_drewN (br.out.trans (HB.out.mono br.out.size)) _⟩
      ·go_wp2_with fail;go_ret;refine⟨aj ?_,br.out.trans (HB.out.mono br.out.size)⟩;rw[<-HR.out]
       have:=Yf HL.out ab HN.out
       simp[this]
theorem Zv(a b:ByteArray)(n1 n2 n3 n4 m1 m2 m3 m4:Int)(s1 s2:Int)(w:World):(binOp .neq 133 (.agg #[.string a,.int .i64 n1,.int .i64 n2,.int .i64 n3,.int .i64 n4,.int .u64 s1]) (.agg #[.string b,.int .i64 m1,.int .i64 m2,.int .i64 m3,.int .i64 m4,.int .u64 s2])).run prog w = .ok (.bool (!(a.toList == b.toList&&(n1 == m1&&(n2 == m2&&(n3 == m3&&(n4 == m4&&s1 == s2))))))) w:=by
 have u3:=underlying3;have a3:=isAgg3;have z3:=sizeOf3;have u9:=underlying9;have a9:=isAgg9;have z9:=sizeOf9;have u8:=underlying131;have a8:=isAgg131;have z8:=sizeOf131;have hS:prog.underlying 133=some (.struct (prog.fieldsOf 133)):=by kernel_rfl
 have hp:prog.stoodInHeld 133=false:=by kernel_rfl
 rw[run_neq_struct,show (10000:Nat)=9999+1 from rfl,run_equalIn_agg w 9999 133 _ _ hS hp];simp only[Program.fieldsOf,underlying133];go_simp;by_cases h0:a.toList=b.toList <;> by_cases h1:n1=m1 <;> by_cases h2:n2=m2 <;> by_cases h3:n3=m3 <;> by_cases h4:n4=m4 <;> by_cases h5:s1=s2 <;> simp[h0,h1,h2,h3,h4,h5]
theorem Zk{x y:Np.Sig}{a b:ByteArray}(ha:a.data.toList=x.zone)(hb:b.data.toList=y.zone):(!(a.toList == b.toList&&(x.key == y.key&&(x.alg == y.alg&&(x.frm == y.frm&&(x.til == y.til&&x.sum == y.sum))))))=decide (x≠y):=by
 rw[dQ,dQ,ha,hb];obtain⟨z,k,g,f,t,m⟩:=x;obtain⟨z',k',g',f',t',m'⟩:=y;simp only[ne_eq,Np.Sig.mk.injEq];by_cases h0:z=z' <;> by_cases h1:k=k' <;> by_cases h2:g=g' <;> by_cases h3:f=f' <;> by_cases h4:t=t' <;> by_cases h5:m=m' <;> simp[h0,h1,h2,h3,h4,h5]
theorem C7(s1 s2:ByteArray)(t1 l1 t2 l2:Int)(v1 v2 u1 u2:Value)(d1 d2:List Np.Datum)(g1 g2:List Np.Sig)(w:World)(eI:SlR cG 3 w w.heap.size v1 d1)(kA:SlR cG 3 w w.heap.size v2 d2)(re:SlR fT 6 w w.heap.size u1 g1)(ul:SlR fT 6 w w.heap.size u2 g2) :
 Calls prog 30 #[.agg #[.string s1,.int .i64 t1,.int .i64 l1,v1,u1],.agg #[.string s2,.int .i64 t2,.int .i64 l2,v2,u2]] w
  λe w'=>e = .returned (.bool (decide ((s1=s2/\t1=t2/\l1=l2/\d1=d2)/\g1=g2)))/\Below w.heap.size w w':=by
 obtain⟨r,hr⟩:∃ r,decide ((s1=s2/\t1=t2/\l1=l2/\d1=d2)/\g1=g2)=r:=⟨_,rfl⟩;rw[hr];have HR:=jq hr;have BU:=jq eI;have ia:=jq kA;have zz:=jq re;have oe:=jq ul;obtain⟨A1,c1,rfl,_,_⟩:=ag eI;obtain⟨A2,c2,rfl,_,_⟩:=ag kA;obtain⟨A3,c3,rfl,_,_⟩:=ag re;obtain⟨A4,c4,rfl,_,_⟩:=ag ul;clear eI kA re ul hr;obtain⟨d1n,h1⟩:∃ n,d1.length=n:=⟨_,rfl⟩;obtain⟨d2n,h2⟩:∃ n,d2.length=n:=⟨_,rfl⟩;obtain⟨n,h3⟩:∃ n,g1.length=n:=⟨_,rfl⟩;obtain⟨m,h4⟩:∃ n,g2.length=n:=⟨_,rfl⟩;rw[h1,h2,h3,h4];rw[h1] at BU;rw[h2] at ia;rw[h3] at zz;rw[h4] at oe;have H3:=jq h3;have H4:=jq h4;clear h1 h2 h3 h4;obtain⟨X,hX⟩:∃ X,w.heap.size=X:=⟨_,rfl⟩;obtain⟨Y,hY⟩:∃ Y,X+1=Y:=⟨_,rfl⟩;obtain⟨W1,ae⟩:∃ W1,(w.alloc (.cells #[.string s1,.int .i64 t1,.int .i64 l1,.slice A1 d1n c1,.slice A3 n c3] 68)).alloc (.cells #[.string s2,.int .i64 t2,.int .i64 l2,.slice A2 d2n c2,.slice A4 m c4] 68)=W1:=⟨_,rfl⟩;have aw:Below w.heap.size w W1:=by rw[<-ae]; exact ((vQ _ _).alloc (bQ _) _).alloc (by simp) _
 have eG:W1.heap.size=w.heap.size+2:=by rw[<-ae]; simp
 have k0:W1.cell? ⟨X,0,none⟩=some (.string s1):=by rw[<-ae,<-hX]; simp[go_sem]
 have k1:W1.cell? ⟨X,1,none⟩=some (.int .i64 t1):=by rw[<-ae,<-hX]; simp[go_sem]
 have k2:W1.cell? ⟨X,2,none⟩=some (.int .i64 l1):=by rw[<-ae,<-hX]; simp[go_sem]
 have k3:W1.cell? ⟨X,3,none⟩=some (.slice A1 d1n c1):=by rw[<-ae,<-hX]; simp[go_sem]
 have k4:W1.cell? ⟨X,4,none⟩=some (.slice A3 n c3):=by rw[<-ae,<-hX]; simp[go_sem]
 have j0:W1.cell? ⟨Y,0,none⟩=some (.string s2):=by rw[<-ae,<-hY,<-hX]; simp[go_sem]
 have j1:W1.cell? ⟨Y,1,none⟩=some (.int .i64 t2):=by rw[<-ae,<-hY,<-hX]; simp[go_sem]
 have j2:W1.cell? ⟨Y,2,none⟩=some (.int .i64 l2):=by rw[<-ae,<-hY,<-hX]; simp[go_sem]
 have j3:W1.cell? ⟨Y,3,none⟩=some (.slice A2 d2n c2):=by rw[<-ae,<-hY,<-hX]; simp[go_sem]
 have j4:W1.cell? ⟨Y,4,none⟩=some (.slice A4 m c4):=by rw[<-ae,<-hY,<-hX]; simp[go_sem]
 rw[hX] at aw eG BU ia zz oe |-;have ay:=jq aw;clear aw;go_enter func30,ntmps30;go_wp2_with fail;refine (MF s1 s2 t1 l1 t2 l2 _ _ d1 d2 _ ((BU.out.keep cL ay.out).more dp (by omega)) ((ia.out.keep cL ay.out).more dp (by omega))).mono ?_;rintro e w2 ⟨rfl,aa⟩;have aN:=aa.size;replace k0:=(cl aa (by omega)).trans k0;replace k1:=(cl aa (by omega)).trans k1;replace k2:=(cl aa (by omega)).trans k2;replace k3:=(cl aa (by omega)).trans k3;replace k4:=(cl aa (by omega)).trans k4;replace j0:=(cl aa (by omega)).trans j0;replace j1:=(cl aa (by omega)).trans j1;replace j2:=(cl aa (by omega)).trans j2;replace j3:=(cl aa (by omega)).trans j3;replace j4:=(cl aa (by omega)).trans j4;have ak:=jq (ay.out.trans (aa.mono (by omega)));clear aa ae hX;obtain⟨q,hq⟩:∃ q,decide (s1=s2/\t1=t2/\l1=l2/\d1=d2)=q:=⟨_,rfl⟩;rw[hq];have pa:=jq hq;clear hq
 cases q with
 | false=>
  have HX:Hid (r=false):=jq (by rw[<-HR.out]; exact tQ λh=>(of_decide_eq_false pa.out) h.1);go_wp2_with fail;go_ret;exact⟨aj HX.out.symm,ak.out⟩
 | true=>
  by_cases CB:n=m
  ·subst CB;go_wp2_with fail;go_loopw [5] (λi wr=>∃ (k:Nat),k<=n/\i = .int .i64 k/\Hid (Below w2.heap.size w2 wr)/\Hid (g1.take k=g2.take k)) (λi _=>n - (intOf i).toNat)
   case atStart=>exact⟨0,jQ _,rfl,jq (vQ _ _),jq rfl⟩
   case round=>
    obtain⟨k,hk,rfl,aO,HT⟩:=hrel;have an:=aO.out.size;have HB:=jq (ak.out.trans (aO.out.mono (by omega)));have a4:=(cl aO.out (by omega)).trans k4;have b4:=(cl aO.out (by omega)).trans j4;by_cases ab:k<n
    ·obtain⟨x,hx⟩:∃ x,g1[k]?=some x:=⟨_,aQ (by rw[H3.out]; exact ab)⟩;obtain⟨y,hy⟩:∃ y,g2[k]?=some y:=⟨_,aQ (by rw[H4.out]; exact ab)⟩;obtain⟨b,o,c,sx,hv,bg,tV,_,f0,f1,f2,f3,f4,f5⟩:=rL (zz.out.keep gg HB.out) hx;obtain⟨b',o',c',sy,hv',xP,iR,_,e0,e1,e2,e3,e4,e5⟩:=rL (oe.out.keep gg HB.out) hy;simp only[Value.slice.injEq] at hv hv';obtain⟨rfl,_,_⟩:=hv;obtain⟨rfl,_,_⟩:=hv';have fV:Hid (x=y->g1.take (k+1)=g2.take (k+1)):=jq (λe=>by
      obtain⟨q1,q2⟩:=cQ.1 hx;obtain⟨q3,q4⟩:=cQ.1 hy;rw[fQ q1,fQ q3,q2,q4,HT.out,e])
     have mw:Hid (x≠y->r=false):=jq (λe=>by
      rw[<-HR.out];refine tQ λh=>e ?_;have h2:=h.2;subst h2;rw[hx] at hy; simpa using hy)
     have bW:(0:Int)<=(k:Int):=by omega
     have bV:(k:Int)<(n:Int):=by omega
     have heq:=Zv sx sy x.key x.alg x.frm x.til y.key y.alg y.frm y.til x.sum y.sum;rw[Zk tV iR] at heq;clear hx hy tV iR;by_cases cI:x=y
     ·have HX:=jq (fV.out cI);have kY:decide (x≠y)=false:=by simpa using cI
      rw[kY] at heq;clear kY cI;go_wp2_with fail;go_quiet (fail);go_wp2_with fail;go_roundw
      case rel=>exact⟨k+1,by omega,by go_num,jq (below_drewN aO.out _),HX⟩
      case measure=>simp[intOf] <;> omega
     ·have HX:=jq (mw.out cI);have kY:decide (x≠y)=true:=uQ cI;rw[kY] at heq;clear kY cI;go_wp2_with fail;go_quiet (fail);go_wp2_with fail;go_ret;exact⟨aj HX.out.symm,below_drewN HB.out _⟩
    ·have HX:Hid (r=true):=jq (by
      rw[<-HR.out];refine uQ ⟨of_decide_eq_true pa.out,?_⟩
      have:=HT.out
      rwa [kQ (by rw[H3.out]; omega),kQ (by rw[H4.out]; omega)] at this)
     go_wp2_with fail;go_ret;exact⟨aj HX.out.symm,HB.out⟩
  ·have hne:(n:Int)≠(m:Int):=by omega
   have hd:decide ((n:Int)=(m:Int))=false:=tQ hne;have hb:((n:Int) == (m:Int))=false:=by simpa using hne
   have HX:Hid (r=false):=jq (by rw[<-HR.out]; exact tQ λh=>CB (by rw[<-H3.out,<-H4.out,h.2]));go_wp2_with fail;go_ret;exact⟨aj HX.out.symm,ak.out⟩
end
end Go.Proofs.YtbfbobfbgabjiaaGreatDoor
namespace Go.Proofs
open YtbfbobfbgabjiaaGreatDoor
open Go.Shelf
def Tryz.laysSlF6_f51_ren:Go.Shelf.Ren:=⟨fun | 6=>51 | 15=>95 | 14=>94 | 28=>156 | 29=>157 | 20=>148 | 21=>149 | 22=>150 | 23=>151 | 24=>152 | 25=>153 | 26=>154 | 27=>155 | 46=>215 | 47=>216 | 48=>217 | 49=>218 | 50=>219 | 57=>251 | n=>n,fun | 22=>38 | 24=>9 | 25=>108 | 3=>3 | 39=>154 | 0=>0 | 53=>214 | 55=>131 | 4=>4 | 46=>208 | 45=>207 | 50=>123 | 5=>5 | 9=>9 | 66=>252 | 70=>256 | 76=>278 | 77=>279 | n=>n,fun | n=>n⟩
theorem Tryz.laysSlF6_f51:Go.Proofs.SlLaysF.n6 Tryz.prog Tryz.laysSlF6_f51_ren:={
 mixed:=by kernel_rfl
 f6:=⟨Tryz.f51.name,by decide,Tryz.func51.trans (Qd some (by kernel_rfl))⟩
 f14:=⟨Tryz.f94.name,by decide,Tryz.func94.trans (Qd some (by kernel_rfl))⟩
 f15:=Tryz.func95.trans (Qd some (by kernel_rfl))
 f20:=⟨Tryz.f148.name,by decide,Tryz.func148.trans (Qd some (by kernel_rfl))⟩
 f21:=⟨Tryz.f149.name,by decide,Tryz.func149.trans (Qd some (by kernel_rfl))⟩
 f22:=⟨Tryz.f150.name,by decide,Tryz.func150.trans (Qd some (by kernel_rfl))⟩
 f23:=⟨Tryz.f151.name,by decide,Tryz.func151.trans (Qd some (by kernel_rfl))⟩
 f24:=⟨Tryz.f152.name,by decide,Tryz.func152.trans (Qd some (by kernel_rfl))⟩
 f25:=⟨Tryz.f153.name,by decide,Tryz.func153.trans (Qd some (by kernel_rfl))⟩
 f26:=⟨Tryz.f154.name,by decide,Tryz.func154.trans (Qd some (by kernel_rfl))⟩
 f27:=⟨Tryz.f155.name,by decide,Tryz.func155.trans (Qd some (by kernel_rfl))⟩
 f28:=Tryz.func156.trans (Qd some (by kernel_rfl))
 f29:=Tryz.func157.trans (Qd some (by kernel_rfl))
 f46:=⟨Tryz.f215.name,by decide,Tryz.func215.trans (Qd some (by kernel_rfl))⟩
 f47:=Tryz.func216.trans (Qd some (by kernel_rfl))
 f48:=Tryz.func217.trans (Qd some (by kernel_rfl))
 f49:=⟨Tryz.f218.name,by decide,Tryz.func218.trans (Qd some (by kernel_rfl))⟩
 f50:=⟨Tryz.f219.name,by decide,Tryz.func219.trans (Qd some (by kernel_rfl))⟩
 f57:=⟨Tryz.f251.name,by decide,Tryz.func251.trans (Qd some (by kernel_rfl))⟩
 t0:=Tryz.underlying0
 a0:=Tryz.isAgg0
 z0:=Tryz.sizeOf0
 v0:=Tryz.zeroValue0
 t3:=Tryz.underlying3
 a3:=Tryz.isAgg3
 z3:=Tryz.sizeOf3
 v3:=Tryz.zeroValue3
 t4:=Tryz.underlying4
 a4:=Tryz.isAgg4
 z4:=Tryz.sizeOf4
 v4:=Tryz.zeroValue4
 t5:=Tryz.underlying5
 a5:=Tryz.isAgg5
 z5:=Tryz.sizeOf5
 v5:=Tryz.zeroValue5
 t9:=Tryz.underlying9
 a9:=Tryz.isAgg9
 z9:=Tryz.sizeOf9
 v9:=Tryz.zeroValue9
 t22:=Tryz.underlying38
 a22:=Tryz.isAgg38
 z22:=Tryz.sizeOf38
 v22:=Tryz.zeroValue38
 a24:=Tryz.isAgg9
 z24:=Tryz.sizeOf9
 t25:=Tryz.underlying108
 a25:=Tryz.isAgg108
 z25:=Tryz.sizeOf108
 v25:=Tryz.zeroValue108
 t39:=Tryz.underlying154
 a39:=Tryz.isAgg154
 z39:=Tryz.sizeOf154
 v39:=Tryz.zeroValue154
 t45:=Tryz.underlying207
 a45:=Tryz.isAgg207
 z45:=Tryz.sizeOf207
 v45:=Tryz.zeroValue207
 t46:=Tryz.underlying208
 a46:=Tryz.isAgg208
 z46:=Tryz.sizeOf208
 v46:=Tryz.zeroValue208
 t50:=Tryz.underlying123
 a50:=Tryz.isAgg123
 z50:=Tryz.sizeOf123
 v50:=Tryz.zeroValue123
 t53:=Tryz.underlying214
 a53:=Tryz.isAgg214
 z53:=Tryz.sizeOf214
 v53:=Tryz.zeroValue214
 t55:=Tryz.underlying131
 a55:=Tryz.isAgg131
 z55:=Tryz.sizeOf131
 v55:=Tryz.zeroValue131
 t66:=Tryz.underlying252
 a66:=Tryz.isAgg252
 z66:=Tryz.sizeOf252
 v66:=Tryz.zeroValue252
 t70:=Tryz.underlying256
 a70:=Tryz.isAgg256
 z70:=Tryz.sizeOf256
 v70:=Tryz.zeroValue256
 t76:=Tryz.underlying278
 a76:=Tryz.isAgg278
 z76:=Tryz.sizeOf278
 v76:=Tryz.zeroValue278
 t77:=Tryz.underlying279
 a77:=Tryz.isAgg279
 z77:=Tryz.sizeOf279
 v77:=Tryz.zeroValue279 }
def Tryz.laysSlF06_f51_ren:Go.Shelf.Ren:=⟨fun | 6=>51 | 15=>95 | 14=>94 | 28=>156 | 29=>157 | 20=>148 | 21=>149 | 22=>150 | 23=>151 | 24=>152 | 25=>153 | 26=>154 | 27=>155 | 46=>215 | 47=>216 | 48=>217 | 49=>218 | 50=>219 | 57=>251 | n=>n,fun | 22=>38 | 24=>9 | 25=>108 | 3=>3 | 39=>154 | 0=>0 | 53=>214 | 55=>131 | 4=>4 | 46=>208 | 45=>207 | 50=>123 | 5=>5 | 9=>9 | 66=>252 | 70=>256 | 76=>278 | 77=>279 | n=>n,fun | n=>n⟩
theorem Tryz.laysSlF06_f51:Go.Proofs.SlLaysF0.n6 Tryz.prog Tryz.laysSlF06_f51_ren:={
 mixed:=by kernel_rfl
 f6:=⟨Tryz.f51.name,by decide,Tryz.func51.trans (Qd some (by kernel_rfl))⟩
 f14:=⟨Tryz.f94.name,by decide,Tryz.func94.trans (Qd some (by kernel_rfl))⟩
 f15:=Tryz.func95.trans (Qd some (by kernel_rfl))
 f20:=⟨Tryz.f148.name,by decide,Tryz.func148.trans (Qd some (by kernel_rfl))⟩
 f21:=⟨Tryz.f149.name,by decide,Tryz.func149.trans (Qd some (by kernel_rfl))⟩
 f22:=⟨Tryz.f150.name,by decide,Tryz.func150.trans (Qd some (by kernel_rfl))⟩
 f23:=⟨Tryz.f151.name,by decide,Tryz.func151.trans (Qd some (by kernel_rfl))⟩
 f24:=⟨Tryz.f152.name,by decide,Tryz.func152.trans (Qd some (by kernel_rfl))⟩
 f25:=⟨Tryz.f153.name,by decide,Tryz.func153.trans (Qd some (by kernel_rfl))⟩
 f26:=⟨Tryz.f154.name,by decide,Tryz.func154.trans (Qd some (by kernel_rfl))⟩
 f27:=⟨Tryz.f155.name,by decide,Tryz.func155.trans (Qd some (by kernel_rfl))⟩
 f28:=Tryz.func156.trans (Qd some (by kernel_rfl))
 f29:=Tryz.func157.trans (Qd some (by kernel_rfl))
 f46:=⟨Tryz.f215.name,by decide,Tryz.func215.trans (Qd some (by kernel_rfl))⟩
 f47:=Tryz.func216.trans (Qd some (by kernel_rfl))
 f48:=Tryz.func217.trans (Qd some (by kernel_rfl))
 f49:=⟨Tryz.f218.name,by decide,Tryz.func218.trans (Qd some (by kernel_rfl))⟩
 f50:=⟨Tryz.f219.name,by decide,Tryz.func219.trans (Qd some (by kernel_rfl))⟩
 f57:=⟨Tryz.f251.name,by decide,Tryz.func251.trans (Qd some (by kernel_rfl))⟩
 t0:=Tryz.underlying0
 a0:=Tryz.isAgg0
 z0:=Tryz.sizeOf0
 v0:=Tryz.zeroValue0
 t3:=Tryz.underlying3
 a3:=Tryz.isAgg3
 z3:=Tryz.sizeOf3
 v3:=Tryz.zeroValue3
 t4:=Tryz.underlying4
 a4:=Tryz.isAgg4
 z4:=Tryz.sizeOf4
 v4:=Tryz.zeroValue4
 t5:=Tryz.underlying5
 a5:=Tryz.isAgg5
 z5:=Tryz.sizeOf5
 v5:=Tryz.zeroValue5
 t9:=Tryz.underlying9
 a9:=Tryz.isAgg9
 z9:=Tryz.sizeOf9
 v9:=Tryz.zeroValue9
 t22:=Tryz.underlying38
 a22:=Tryz.isAgg38
 z22:=Tryz.sizeOf38
 v22:=Tryz.zeroValue38
 t25:=Tryz.underlying108
 a25:=Tryz.isAgg108
 z25:=Tryz.sizeOf108
 v25:=Tryz.zeroValue108
 t39:=Tryz.underlying154
 a39:=Tryz.isAgg154
 z39:=Tryz.sizeOf154
 v39:=Tryz.zeroValue154
 t45:=Tryz.underlying207
 a45:=Tryz.isAgg207
 z45:=Tryz.sizeOf207
 v45:=Tryz.zeroValue207
 t46:=Tryz.underlying208
 a46:=Tryz.isAgg208
 z46:=Tryz.sizeOf208
 v46:=Tryz.zeroValue208
 t50:=Tryz.underlying123
 a50:=Tryz.isAgg123
 z50:=Tryz.sizeOf123
 v50:=Tryz.zeroValue123
 t53:=Tryz.underlying214
 a53:=Tryz.isAgg214
 z53:=Tryz.sizeOf214
 v53:=Tryz.zeroValue214
 t55:=Tryz.underlying131
 a55:=Tryz.isAgg131
 z55:=Tryz.sizeOf131
 v55:=Tryz.zeroValue131
 t66:=Tryz.underlying252
 a66:=Tryz.isAgg252
 z66:=Tryz.sizeOf252
 v66:=Tryz.zeroValue252
 t70:=Tryz.underlying256
 a70:=Tryz.isAgg256
 z70:=Tryz.sizeOf256
 v70:=Tryz.zeroValue256
 t76:=Tryz.underlying278
 a76:=Tryz.isAgg278
 z76:=Tryz.sizeOf278
 v76:=Tryz.zeroValue278
 t77:=Tryz.underlying279
 a77:=Tryz.isAgg279
 z77:=Tryz.sizeOf279
 v77:=Tryz.zeroValue279 }
open Go.RowKit Go.Lib Go.Sort in
theorem Tryz.slices_SortFunc_none{α:Type}[Inhabited α](p:Option Addr)(cap:Nat)(fv:Value)(w:World) :
 Calls Tryz.prog 51 #[.slice p 0 cap,fv] w λe w'=>e = .returned (.tuple #[])/\w'=w:=AnyF.slices_SortFunc_none Tryz.laysSlF06_f51 p cap fv w
open Go.RowKit Go.Lib Go.Sort in
theorem Tryz.slices_SortFunc_total{α:Type}[Inhabited α](enc:α->Value)(h1:OneCell enc)(cf:α->α->Int)(hO:SWO (ltOf cf))(g:Nat)(cb:Array Value)(blk off cap:Nat)(d:Array α)(w:World)(eg:∀ args w,(callFunc g args).run Tryz.prog w = .ok (.enter g args) w)(Bc:CmpLays1 Tryz.prog g cb enc cf blk off d.size w)(hH:Holds enc w blk off d)(aGY:blk<w.heap.size)(an:d.size<4611686018427387904)(hT:∀ x y,(ltOf cf) x y=false->(ltOf cf) y x=false->x=y) :
 Calls Tryz.prog 51 #[.slice (some ⟨blk,off,none⟩) d.size cap,.func (.func g) #[] cb] w λe w'=>
  e = .returned (.tuple #[])/\∃ n os,w'=sortWorld enc w blk off n (d.toList.mergeSort λx y=>!(ltOf cf) y x).toArray os:=Any.slices_SortFunc_total Tryz.laysSlF6_f51 enc h1 cf hO g cb blk off cap d w eg Bc hH aGY an hT
end Go.Proofs
namespace Go.Proofs.YtbfbobfbgabjiaaGreatDoor
open Go.Proofs.Tryz
section
open Go.RowKit Go.MapKept
def pH(p:Int×List UInt8):Value:=.agg #[.int .i64 p.1,aH p.2]
def oP(r:Nat)(kvs:List ((Int×List UInt8)×Value))(w:World):Prop:=∃ es,w.heap[r]?=some (.map es es.size)/\es.toList.map (λe=>(e.key,e.val))=kvs.map (λp=>(pH p.1,p.2))/\∀ (i:Nat) (e:MapEntry),es[i]?=some e->e.born=i
theorem oP.lt{r:Nat}{kvs:List ((Int×List UInt8)×Value)}{w:World}(h:oP r kvs w):r<w.heap.size:=by
 obtain⟨es,h,_⟩:=h;exact (eQ.1 h).1
theorem oP.keep{r:Nat}{kvs:List ((Int×List UInt8)×Value)}{w w':World}{n:Nat}(h:oP r kvs w)(hb:Below n w w')(hn:r<n):oP r kvs w':=by
 obtain⟨es,h,h2⟩:=h;exact⟨es,(hb.block r hn).trans h,h2⟩
theorem oP.keep'{r:Nat}{kvs:List ((Int×List UInt8)×Value)}{w w':World}(h:oP r kvs w)(hb:w'.heap[r]?=w.heap[r]?):oP r kvs w':=by
 obtain⟨es,h,h2⟩:=h;exact⟨es,hb.trans h,h2⟩
theorem oP.made(w:World):oP w.heap.size [] (w.alloc (.map #[] 0)):=⟨#[],heap_alloc_new _ _,rfl,λi e h=>by simp at h⟩
theorem aaX(p q:Int×List UInt8)(w:World):(Op.equal 112 (pH p) (pH q)).run prog w = .ok (decide (p=q)) w:=by
 obtain⟨n,a⟩:=p;obtain⟨m,b⟩:=q;have u3:=underlying3;have a3:=isAgg3;have z3:=sizeOf3;have u9:=underlying9;have a9:=isAgg9;have z9:=sizeOf9;have hS:prog.underlying 112=some (.struct (prog.fieldsOf 112)):=by kernel_rfl
 have hp:prog.stoodInHeld 112=false:=by kernel_rfl
 show (Op.equalIn 10000 112 (.agg #[.int .i64 n,.string ⟨a.toArray⟩]) (.agg #[.int .i64 m,.string ⟨b.toArray⟩])).run prog w=_;rw[show (10000:Nat)=9999+1 from rfl,run_equalIn_agg w 9999 112 _ _ hS hp];simp only[Program.fieldsOf,underlying112];go_simp;by_cases h0:a=b <;> by_cases h1:n=m <;> simp[h0,h1]
theorem aaY(b:Bool)(p:Int×List UInt8)(w:World):(Instr.checkKey b 10000 112 (pH p)).run prog w = .ok () w:=by
 have hS:=underlying112;have hs:∀ s w,(Instr.checkKey b 9999 9 (.string s)).run prog w = .ok () w:=λs w=>MapKept.run_checkKey (k:=.string s) underlying9 (by simp[MapKept.IsKey]) b 9998;have hi:∀ n w,(Instr.checkKey b 9999 3 (.int .i64 n)).run prog w = .ok () w:=λn w=>MapKept.run_checkKey (k:=.int .i64 n) underlying3 (by simp[MapKept.IsKey]) b 9998;have a3:=isAgg3;have z3:=sizeOf3;have a9:=isAgg9;have z9:=sizeOf9;rw[show (10000:Nat)=9999+1 from rfl,Instr.checkKey];simp only[pH,aH];simp[run_underlying hS,go_sem,Result.andThen,hs,hi]
theorem TD{fs:Array Field}{k:Value}{e:MapEntry}{es:List MapEntry}(i:Nat):Instr.findNow (.struct fs) k (e::es) i=none:=by
 simp only[Instr.findNow];rfl
theorem PD(p:Int×List UInt8)(w:World):∀ (es:List MapEntry) (kvs:List ((Int×List UInt8)×Value)) (i:Nat),es.map (λe=>(e.key,e.val))=kvs.map (λq=>(pH q.1,q.2))->
 (∀ v,kvs.lookup p=some v->∃ j,(es[j]?).map (λe=>(e.key,e.val))=some (pH p,v)/\kvs[j]?=some (p,v)/\(Instr.findAsking 112 (pH p) es i).run prog w = .ok (some (i+j,v)) w)/\(kvs.lookup p=none->(Instr.findAsking 112 (pH p) es i).run prog w = .ok none w)
 | [],kvs,i,h=>by
   cases kvs with
   | nil=>exact⟨λv h=>by simp at h,λ_=>by rw[Instr.findAsking]; rfl⟩
   | cons=>simp at h
 | e::es,kvs,i,h=>by
   cases kvs with
   | nil=>simp at h
   | cons q kvs=>
    obtain⟨q,u⟩:=q;simp only[List.map_cons,List.cons.injEq,Prod.mk.injEq] at h;obtain⟨⟨h1,h2⟩,h3⟩:=h;obtain⟨i1,i2⟩:=PD p w es kvs (i+1) h3;have hq:=aaX p q w;rw[<-h1] at hq;by_cases rX:p=q
    ·have hd:decide (p=q)=true:=by simpa using rX
     rw[hd] at hq;have hr:(Instr.findAsking 112 (pH p) (e::es) i).run prog w = .ok (some (i,u)) w:=by
      rw[Instr.findAsking];simp[hq,h2]
     subst rX;refine⟨λv hv=>⟨0,?_,?_,?_⟩,λhn=>?_⟩
     ·rw[List.lookup_cons_self] at hv; cases hv; simp[h1,h2]
     ·rw[List.lookup_cons_self] at hv; cases hv; rfl
     ·rw[List.lookup_cons_self] at hv; cases hv; exact hr
     ·rw[List.lookup_cons_self] at hn; cases hn
    ·have hd:decide (p=q)=false:=by simpa using rX
     rw[hd] at hq;have hb:(p == q)=false:=by simpa using rX
     have hr:(Instr.findAsking 112 (pH p) (e::es) i).run prog w=(Instr.findAsking 112 (pH p) es (i+1)).run prog w:=by
      rw[Instr.findAsking];simp[hq]
     have hl:((q,u)::kvs).lookup p=kvs.lookup p:=by rw[List.lookup_cons,hb]
     rw[hr,hl];refine⟨λv hv=>?_,i2⟩;obtain⟨j,j1,j2,j3⟩:=i1 v hv;exact⟨j+1,by simpa using j1,by simpa using j2,by rw[show i+(j+1)=i+1+j by omega]; exact j3⟩
theorem acK(p:Int×List UInt8)(w:World)(es:List MapEntry)(kvs:List ((Int×List UInt8)×Value))(h:es.map (λe=>(e.key,e.val))=kvs.map (λq=>(pH q.1,q.2))) :
 (∀ v,kvs.lookup p=some v->∃ j,(es[j]?).map (λe=>(e.key,e.val))=some (pH p,v)/\kvs[j]?=some (p,v)/\(Instr.findKey 112 (pH p) es).run prog w = .ok (some (j,v)) w)/\(kvs.lookup p=none->(Instr.findKey 112 (pH p) es).run prog w = .ok none w):=by
 have hS:=underlying112
 cases es with
 | nil=>
  cases kvs with
  | nil=>exact⟨λv h=>by simp at h,λ_=>by simp[Instr.findKey,run_underlying hS,Instr.findNow]⟩
  | cons=>simp at h
 | cons e es=>
  obtain⟨i1,i2⟩:=PD p w (e::es) kvs 0 h;have hr:(Instr.findKey 112 (pH p) (e::es)).run prog w=(Instr.findAsking 112 (pH p) (e::es) 0).run prog w:=by
   simp[Instr.findKey,run_underlying hS,TD]
  rw[hr];refine⟨λv hv=>?_,i2⟩;obtain⟨j,j1,j2,j3⟩:=i1 v hv;exact⟨j,j1,j2,by rw[j3,Nat.zero_add]⟩
end
end Go.Proofs.YtbfbobfbgabjiaaGreatDoor
namespace Go.Proofs
open YtbfbobfbgabjiaaGreatDoor
open Go.Shelf
def Tryz.sortSpan_ren:Go.Shelf.Ren:=⟨fun | 6=>56 | 15=>95 | 14=>108 | 28=>156 | 29=>157 | 20=>168 | 21=>169 | 22=>170 | 23=>171 | 24=>172 | 25=>173 | 26=>174 | 27=>175 | 46=>225 | 47=>216 | 48=>217 | 49=>226 | 50=>227 | 57=>252 | n=>n,fun | 22=>46 | 24=>114 | 25=>117 | 3=>3 | 39=>154 | 0=>0 | 53=>214 | 55=>131 | 4=>4 | 46=>208 | 45=>207 | 50=>123 | 5=>5 | 9=>9 | 66=>252 | 70=>256 | 76=>278 | 77=>279 | n=>n,fun | n=>n⟩
theorem Tryz.sortSpan:Go.Proofs.SlLaysF0.n6 Tryz.prog Tryz.sortSpan_ren:={
 mixed:=by kernel_rfl
 f6:=⟨Tryz.f56.name,by decide,Tryz.func56.trans (Qd some (by kernel_rfl))⟩
 f14:=⟨Tryz.f108.name,by decide,Tryz.func108.trans (Qd some (by kernel_rfl))⟩
 f15:=Tryz.func95.trans (Qd some (by kernel_rfl))
 f20:=⟨Tryz.f168.name,by decide,Tryz.func168.trans (Qd some (by kernel_rfl))⟩
 f21:=⟨Tryz.f169.name,by decide,Tryz.func169.trans (Qd some (by kernel_rfl))⟩
 f22:=⟨Tryz.f170.name,by decide,Tryz.func170.trans (Qd some (by kernel_rfl))⟩
 f23:=⟨Tryz.f171.name,by decide,Tryz.func171.trans (Qd some (by kernel_rfl))⟩
 f24:=⟨Tryz.f172.name,by decide,Tryz.func172.trans (Qd some (by kernel_rfl))⟩
 f25:=⟨Tryz.f173.name,by decide,Tryz.func173.trans (Qd some (by kernel_rfl))⟩
 f26:=⟨Tryz.f174.name,by decide,Tryz.func174.trans (Qd some (by kernel_rfl))⟩
 f27:=⟨Tryz.f175.name,by decide,Tryz.func175.trans (Qd some (by kernel_rfl))⟩
 f28:=Tryz.func156.trans (Qd some (by kernel_rfl))
 f29:=Tryz.func157.trans (Qd some (by kernel_rfl))
 f46:=⟨Tryz.f225.name,by decide,Tryz.func225.trans (Qd some (by kernel_rfl))⟩
 f47:=Tryz.func216.trans (Qd some (by kernel_rfl))
 f48:=Tryz.func217.trans (Qd some (by kernel_rfl))
 f49:=⟨Tryz.f226.name,by decide,Tryz.func226.trans (Qd some (by kernel_rfl))⟩
 f50:=⟨Tryz.f227.name,by decide,Tryz.func227.trans (Qd some (by kernel_rfl))⟩
 f57:=⟨Tryz.f252.name,by decide,Tryz.func252.trans (Qd some (by kernel_rfl))⟩
 t0:=Tryz.underlying0
 a0:=Tryz.isAgg0
 z0:=Tryz.sizeOf0
 v0:=Tryz.zeroValue0
 t3:=Tryz.underlying3
 a3:=Tryz.isAgg3
 z3:=Tryz.sizeOf3
 v3:=Tryz.zeroValue3
 t4:=Tryz.underlying4
 a4:=Tryz.isAgg4
 z4:=Tryz.sizeOf4
 v4:=Tryz.zeroValue4
 t5:=Tryz.underlying5
 a5:=Tryz.isAgg5
 z5:=Tryz.sizeOf5
 v5:=Tryz.zeroValue5
 t9:=Tryz.underlying9
 a9:=Tryz.isAgg9
 z9:=Tryz.sizeOf9
 v9:=Tryz.zeroValue9
 t22:=Tryz.underlying46
 a22:=Tryz.isAgg46
 z22:=Tryz.sizeOf46
 v22:=Tryz.zeroValue46
 t25:=Tryz.underlying117
 a25:=Tryz.isAgg117
 z25:=Tryz.sizeOf117
 v25:=Tryz.zeroValue117
 t39:=Tryz.underlying154
 a39:=Tryz.isAgg154
 z39:=Tryz.sizeOf154
 v39:=Tryz.zeroValue154
 t45:=Tryz.underlying207
 a45:=Tryz.isAgg207
 z45:=Tryz.sizeOf207
 v45:=Tryz.zeroValue207
 t46:=Tryz.underlying208
 a46:=Tryz.isAgg208
 z46:=Tryz.sizeOf208
 v46:=Tryz.zeroValue208
 t50:=Tryz.underlying123
 a50:=Tryz.isAgg123
 z50:=Tryz.sizeOf123
 v50:=Tryz.zeroValue123
 t53:=Tryz.underlying214
 a53:=Tryz.isAgg214
 z53:=Tryz.sizeOf214
 v53:=Tryz.zeroValue214
 t55:=Tryz.underlying131
 a55:=Tryz.isAgg131
 z55:=Tryz.sizeOf131
 v55:=Tryz.zeroValue131
 t66:=Tryz.underlying252
 a66:=Tryz.isAgg252
 z66:=Tryz.sizeOf252
 v66:=Tryz.zeroValue252
 t70:=Tryz.underlying256
 a70:=Tryz.isAgg256
 z70:=Tryz.sizeOf256
 v70:=Tryz.zeroValue256
 t76:=Tryz.underlying278
 a76:=Tryz.isAgg278
 z76:=Tryz.sizeOf278
 v76:=Tryz.zeroValue278
 t77:=Tryz.underlying279
 a77:=Tryz.isAgg279
 z77:=Tryz.sizeOf279
 v77:=Tryz.zeroValue279 }
end Go.Proofs
namespace Go.Proofs.YtbfbobfbgabjiaaGreatDoor
open Go.Proofs.Tryz
section
open Go.ChangeShapes Go.WideShapes Go.ChangeAt Go.RowKit
theorem Pk:prog.globalNamed "nameplan/record.rules" = some 0:=by kernel_rfl
theorem WN:(prog.globals[0]?).map (·.type)=some 238:=by kernel_rfl
theorem Yi:prog.cellsOf 237=8:=by kernel_rfl
theorem jn:prog.cellsOf 3=1:=by kernel_rfl
theorem Hc:prog.cellsOf 4=1:=by kernel_rfl
def oG:Value->DataW Unit
 | .int k n=>.lit (.int k n)
 | .bool b=>.lit (.bool b)
 | _=>.nil
theorem UR:(Rows.laid_nameplan_record_rules:DataW Unit) = .agg ((List.range 9).map λ(k:Nat)=>.agg ((jp (Np.cm k)).toList.map oG)):=by
 rfl
section
variable {w:World} {base:Nat} {spare:Nat->Bool} {held:Bool} {fuel:Nat} {cs:List Value} {p:List MemPlace}
theorem AA{n:Int}(h:DataW.trod (λ_=>()) prog w base spare held fuel 3 cs=some (oG (.int .i64 n),p)):cs = [.int .i64 n]:=by
 obtain⟨m,rfl,hx,_⟩:=DataW.trod_int underlying3 h;simp only[oG,Prod.mk.injEq,DataW.lit.injEq,Lit.int.injEq] at hx;rw[hx.1.2]
theorem Hi{b:Bool}(h:DataW.trod (λ_=>()) prog w base spare held fuel 4 cs=some (oG (.bool b),p)):cs = [.bool b]:=by
 obtain⟨m,rfl,hx⟩:=DataW.trod_bool underlying4 h;simp only[oG,Prod.mk.injEq,DataW.lit.injEq,Lit.bool.injEq] at hx;rw[hx.1]
theorem tI{cs:List Value}{o:Nat}{v:Value}(h:(cs.drop o).take 1 = [v]):cs[o]?=some v:=by
 have:=Qd (·[0]?) h
 simpa [List.getElem?_take,List.getElem?_drop] using this
theorem Nm{r:Np.Rule}(h:DataW.trod (λ_=>()) prog w base spare held fuel 237 cs=some (.agg ((jp r).toList.map oG),p)):∀ (j:Nat) (v:Value),(jp r).toList[j]?=some v->cs[j]?=some v:=by
 obtain⟨ys,n,_,hx,_,hlen,hf⟩:=DataW.trod_struct underlying237 h;simp only[Prod.mk.injEq,DataW.agg.injEq] at hx;have hy:∀ (j:Nat) (v:Value),(jp r).toList[j]?=some v->∃ q,ys[j]?=some (oG v,q):=λj v hj=>by
  have h1:(ys.map (·.1))[j]?=some (oG v):=by rw[<-hx.1]; simp[hj]
  simp only[List.getElem?_map,Option.map_eq_some_iff] at h1;obtain⟨y,sX,pS⟩:=h1;exact⟨y.2,by rw[sX,<-pS]⟩
 intro j v hj;obtain⟨q,hq⟩:=hy j v hj
 match j,hj,hq with
 | 0,hj,hq=>simp[jp] at hj; subst hj; have:DataW.trod (λ_=>()) prog w base spare held n 3 ((cs.drop 0).take (prog.cellsOf 3))=ys[0]?:=hf 0 _ rfl; rw[hq,jn] at this; exact tI (AA this)
 | 1,hj,hq=>simp[jp] at hj; subst hj; have:DataW.trod (λ_=>()) prog w base spare held n 3 ((cs.drop 1).take (prog.cellsOf 3))=ys[1]?:=hf 1 _ rfl; rw[hq,jn] at this; exact tI (AA this)
 | 2,hj,hq=>simp[jp] at hj; subst hj; have:DataW.trod (λ_=>()) prog w base spare held n 3 ((cs.drop 2).take (prog.cellsOf 3))=ys[2]?:=hf 2 _ rfl; rw[hq,jn] at this; exact tI (AA this)
 | 3,hj,hq=>simp[jp] at hj; subst hj; have:DataW.trod (λ_=>()) prog w base spare held n 3 ((cs.drop 3).take (prog.cellsOf 3))=ys[3]?:=hf 3 _ rfl; rw[hq,jn] at this; exact tI (AA this)
 | 4,hj,hq=>simp[jp] at hj; subst hj; have:DataW.trod (λ_=>()) prog w base spare held n 3 ((cs.drop 4).take (prog.cellsOf 3))=ys[4]?:=hf 4 _ rfl; rw[hq,jn] at this; exact tI (AA this)
 | 5,hj,hq=>simp[jp] at hj; subst hj; have:DataW.trod (λ_=>()) prog w base spare held n 4 ((cs.drop 5).take (prog.cellsOf 4))=ys[5]?:=hf 5 _ rfl; rw[hq,Hc] at this; exact tI (Hi this)
 | 6,hj,hq=>simp[jp] at hj; subst hj; have:DataW.trod (λ_=>()) prog w base spare held n 4 ((cs.drop 6).take (prog.cellsOf 4))=ys[6]?:=hf 6 _ rfl; rw[hq,Hc] at this; exact tI (Hi this)
 | 7,hj,hq=>simp[jp] at hj; subst hj; have:DataW.trod (λ_=>()) prog w base spare held n 4 ((cs.drop 7).take (prog.cellsOf 4))=ys[7]?:=hf 7 _ rfl; rw[hq,Hc] at this; exact tI (Hi this)
 | j+8,hj,_=>simp[jp] at hj
end
theorem YC{W:World}{rest:List (String×DataW Unit)}(h:laidMet prog (("nameplan/record.rules",Rows.laid_nameplan_record_rules)::rest) W):iW W W.heap.size:=by
 obtain⟨ps,⟨g',t',cs,fuel,p,q,hg',ht',aTJ,hd,_,_⟩,_⟩:=h;obtain rfl:=Option.some.inj (Pk.symm.trans hg');obtain rfl:=Option.some.inj (WN.symm.trans ht');rw[UR] at hd;obtain⟨xs,m,_,hx,_,hlen,hf⟩:=DataW.trod_array underlying238 hd;simp only[Prod.mk.injEq,DataW.agg.injEq] at hx;have hcell:∀ (i:Nat) (v:Value),cs[i]?=some v->W.cell? ⟨0,i,none⟩=some v:=λi v hi=>by rw[World.var?_cell Pk aTJ i]; exact hi
 refine⟨?_,λk hk j v hj=>?_⟩
 ·have h0:=hf 0 (by omega);obtain⟨x0,fz⟩:∃ x,xs[0]?=some x:=⟨_,aQ (by omega)⟩;rw[fz] at h0;have h1:x0.1 = .agg ((jp (Np.cm (0:Nat))).toList.map oG):=by
   have:(xs.map (·.1))[0]?=some (.agg ((jp (Np.cm (0:Nat))).toList.map oG)):=by rw[<-hx.1]; rfl
   rw[List.getElem?_map,fz] at this;simpa using this
  rw[show x0=(x0.1,x0.2) from rfl,h1] at h0;have h2:=Nm h0 0 _ rfl;simp only[Nat.zero_mul,List.drop_zero,List.getElem?_take] at h2;split at h2
  ·exact World.block_lt_of_cell? _ _ (hcell 0 _ (by simpa using h2))
  ·cases h2
 ·have h0:=hf k hk;obtain⟨x0,fz⟩:∃ x,xs[k]?=some x:=⟨_,aQ (by omega)⟩;rw[fz] at h0;have h1:x0.1 = .agg ((jp (Np.cm k)).toList.map oG):=by
   have:(xs.map (·.1))[k]?=some (.agg ((jp (Np.cm k)).toList.map oG)):=by rw[<-hx.1,List.getElem?_map,List.getElem?_range hk]; rfl
   rw[List.getElem?_map,fz] at this;simpa using this
  rw[show x0=(x0.1,x0.2) from rfl,h1] at h0;have h2:=Nm h0 j v hj;rw[Yi,List.getElem?_take] at h2;split at h2
  ·rw[List.getElem?_drop] at h2;exact hcell _ _ (by simpa using h2)
  ·cases h2
end
section
open Go.RowKit Go.Sort Go.Shelf
section
variable {α:Type} [Inhabited α]
theorem GL(enc:α->List Value)(k:Nat)(hk:∀ x,(enc x).length=k)(h0:0<k)(xs:List α):(flatK enc k xs.toArray).toList=(xs.map enc).flatten:=by
 have hlen:(xs.map enc).flatten.length=xs.length * k:=by
  clear h0
  induction xs with
  | nil=>simp
  | cons y ys ih=>rw[List.map_cons,List.flatten_cons,List.length_append,ih,hk,List.length_cons,Nat.succ_mul]; omega
 apply List.ext_getElem?;intro t;by_cases ht:t<xs.length * k
 ·have h1:t / k<xs.length:=(Nat.div_lt_iff_lt_mul h0).2 ht;have h2:t % k<k:=Nat.mod_lt _ h0;have hr:(xs.map enc)[t / k]?=some (enc xs[t / k]):=by simp[h1]
  have hu:(enc xs[t / k])[t % k]?=some ((enc xs[t / k])[t % k]'(by rw[hk]; exact h2)):=aQ _;have h3:=Dy (xs.map enc) (t / k) (t % k) _ _ (by intro r hr; obtain⟨x,_,rfl⟩:=List.mem_map.1 hr; exact hk x) hr hu;rw[show t / k * k+t % k=t by rw[Nat.mul_comm]; exact Nat.div_add_mod t k] at h3;rw[h3];have hs:t<(flatK enc k xs.toArray).size:=by simpa using ht
  rw[Array.getElem?_toList,pQ hs];congr 1;have h4:=get_flatK enc k xs.toArray t (by simpa using ht);rw[getElem!_pos (flatK enc k xs.toArray) t hs] at h4;rw[h4];rw[getElem!_pos xs.toArray (t / k) (by simpa using h1)];rw[getElem!_pos _ (t % k) (by rw[hk]; exact h2)];simp
 ·rw[List.getElem?_eq_none (by simp; omega),List.getElem?_eq_none (by rw[hlen]; omega)]
theorem WI(enc:α->List Value)(k:Nat)(hk:∀ x,(enc x).length=k)(h0:0<k){w:World}{g:Nat}{cur:Array Value}{e:TypeId}{xs:List α}(hb:w.heap[g]?=some (.cells cur e (0,0)))(ht:cur.toList.take (xs.length * k)=(xs.map enc).flatten):HoldsK enc k w g 0 xs.toArray:=by
 intro j hj;have hj':j<xs.length * k:=by simpa using hj
 refine⟨?_,by simp[World.frozen?,hb]⟩;have h1:(cur.toList.take (xs.length * k))[j]?=(flatK enc k xs.toArray).toList[j]?:=by rw[ht,GL enc k hk h0]
 rw[List.getElem?_take_of_lt hj'] at h1;simp only[World.cell?,hb,Nat.zero_add,Option.isSome_none,Bool.false_eq_true,if_false];rw[<-Array.getElem?_toList,h1];have hs:j<(flatK enc k xs.toArray).size:=by simpa using hj'
 rw[Array.getElem?_toList,pQ hs,getElem!_pos _ j hs];rfl
theorem UV(enc:α->List Value)(k:Nat){w:World}{g n:Nat}{os:Array Obj}{cur:Array Value}{e:TypeId}{fr:Nat×Nat}(d:Array α)(hb:w.heap[g]?=some (.cells cur e fr)) :
 (sortWorldK enc k w g 0 n d os).heap[g]?=some (.cells (putCells id 0 (flatK enc k d) cur) e fr):=by
 have hl:g<w.heap.size:=(eQ.1 hb).1;unfold sortWorldK putRowK;rw[heap_grow_old _ _ (by simpa [putRow,mapBlock,Sort.ahead] using hl)];simp[putRow,mapBlock,Sort.ahead,Array.getElem?_modify,hb,onCells]
theorem Tz(enc:α->List Value)(k:Nat){w:World}{g n:Nat}{os:Array Obj}(d:Array α):w.grownBy (sortWorldK enc k w g 0 n d os) (some g):=by
 unfold sortWorldK putRowK;refine⟨rfl,rfl,rfl,by simp,λq hq hne=>?_⟩;rw[heap_grow_old _ _ (by simpa using hq)]
 have:g≠q:=λe=>hne (by rw[e])
 simp[putRow,mapBlock,Sort.ahead,Array.getElem?_modify,this]
theorem Ty(enc:α->List Value)(k:Nat)(hk:∀ x,(enc x).length=k)(h0:0<k){w:World}{base g cap n:Nat}{e:TypeId}{os:Array Obj}{cur:Array Value}{xs ys:List α}(hl:ys.length=xs.length)(eS:base<=g)(hb:w.heap[g]?=some (.cells cur e (0,0)))
 (h1:xs.length<=cap) (h2:cap<=maxLen) (h3:cur.size=cap * k) :
 (sortWorldK enc k w g 0 n ys.toArray os).ownsRow base e k (.slice (some ⟨g,0,none⟩) xs.length cap) xs.length (ys.map enc).flatten:=by
 have xb:(ys.map enc).flatten.length=ys.length * k:=by
  rw[<-GL enc k hk h0 ys]; simp
 have g8:ys.length * k<=cur.size:=by rw[h3]; exact Nat.mul_le_mul_right k (by omega)
 refine⟨by rw[xb,hl],.inr ⟨g,cap,_,rfl,eS,UV enc k _ hb,h1,h2,by simp[putCells,h3],?_⟩⟩;rw[<-hl];apply List.ext_getElem?;intro j;by_cases hj:j<ys.length * k
 ·rw[List.getElem?_take_of_lt hj,Array.getElem?_toList,<-GL enc k hk h0 ys];have hs:j<(flatK enc k ys.toArray).size:=by simpa using hj
  rw[Array.getElem?_toList,pQ hs];have rn:j<cur.size:=by omega
  simp[putCells,hj,rn]
 ·rw[List.getElem?_take_eq_none (by omega),List.getElem?_eq_none (by rw[xb]; omega)]
end
def gq(s:Np.Span):List Value:=[.int .i64 s.frm,.int .i64 s.til]
def aI(base:Nat)(w:World)(v:Value)(ps:List Np.Span):Prop:=w.ownsRow base 114 2 v ps.length (ps.map gq).flatten
theorem aI.form{base:Nat}{w:World}{v:Value}{ps:List Np.Span}(h:aI base w v ps):∃ A c,v = .slice A ps.length c:=xX h
theorem aI.alloc{base:Nat}{w:World}{v:Value}{ps:List Np.Span}(h:aI base w v ps)(o:Obj):aI base (w.alloc o) v ps:=World.ownsRow.alloc h o
theorem aI.keep{base:Nat}{w w':World}{v:Value}{ps:List Np.Span}(h:aI base w v ps)(hb:Below w.heap.size w w'):aI base w' v ps:=fL h (λg hg=>hb.block g (h.lt g hg).2)
theorem aI.nil(base:Nat)(w:World):aI base w (.slice none 0 0) []:=⟨by simp,.inl ⟨rfl,rfl⟩⟩
theorem aI.slr{base:Nat}{w:World}{v:Value}{ps:List Np.Span}(h:aI base w v ps)(hl:ps.length<=140737488355328):SlR cV 2 w w.heap.size v ps:=by
 refine GF (sz:=2) (e:=114) (base:=base) gq (λ_ _=>rfl) ?_ hl (λx hx=>rfl)
 have:w.ownsRow base 114 2 v ps.length (ps.map gq).flatten:=h
 rwa [<-List.flatMap_def] at this
theorem Tryz.infoSpan:(prog.info? 114).map (λi=>(i.zero,i.size,i.bytes))=some (some (.agg #[.int .i64 0,.int .i64 0]),2,16):=by kernel_rfl
section
variable {ops:Array Oper} {rest:List Oper} {o:Oper} {a:Act} {Q:Exit->Act->World->Prop}
theorem tn(w:World)(jA:o.guard=none)(s x:Operand)(ho:o.op = .call { callee:=.builtin .append,args:=#[s,x],argTypes:=#[46,46] })
 (base:Nat) (v:Value) (ps:List Np.Span) (hs:a.eval s=v) (hown:aI base w v ps) (blk:Nat) (f u:Int) (hx:a.eval x = .slice (some ⟨blk,0,none⟩) 1 1) (hc:w.cell? ⟨blk,0,none⟩=some (.int .i64 f)) (bC:w.cell? ⟨blk,1,none⟩=some (.int .i64 u)) (hlen:ps.length<=100000) (eS:base<=w.heap.size)
 (h:∀ v' w',aI base w' v' (ps ++ [⟨f,u⟩])->Below base w w'->wpList prog ops Q rest (a.put o.dst v') w'):wpList prog ops Q (o::rest) a w:=by
 obtain⟨i0,hi,ea,bI,aN⟩:=info_parts Tryz.infoSpan;refine wpList_append_own_at w jA s x 46 ho base 114 i0 (.agg #[.int .i64 0,.int .i64 0]) 2 16 underlying46 hi ea bI aN rfl (by decide) v ps.length (ps.map gq).flatten hs hown ⟨blk,0,none⟩ 1 1 [.int .i64 f,.int .i64 u] hx rfl ?_ (by simp[Value.oneCell']) (by unfold maxLen; omega) (by omega) eS ?_
 ·intro j y hj
  match j,hj with
  | 0,hj=>simp at hj; subst hj; simpa [Addr.add] using hc
  | 1,hj=>simp at hj; subst hj; simpa [Addr.add] using bC
  | j+2,hj=>simp at hj
 ·intro v' w' ho' hg _ _;refine h v' w' ?_ ((vQ _ _).grown hg eS (λk hk=>(hown.lt k hk).1));have e:(ps ++ [(⟨f,u⟩:Np.Span)]).length=ps.length+1:=by simp
  unfold aI;rw[e,List.map_append,List.flatten_append];exact ho'
end
theorem Y2(f u:Int)(w:World) :
 Calls prog 124 #[.agg #[.int .i64 f,.int .i64 u]] w λe w'=>e = .returned (.bool (decide (f<u)))/\Below w.heap.size w w':=by
 have HB:Hid (∀ o,Below w.heap.size w (w.alloc o)):=jq (λo=>(vQ _ w).alloc (bQ _) _);go_enter func124,ntmps124;go_wp2_with fail;go_ret;exact⟨rfl,HB.out _⟩
theorem YA(v:Value)(l:List Np.Span)(cu:l.length<=20000)(hf:∀ s∈l,s.frm<s.til)(w:World)(h:SlR cV 2 w w.heap.size v l) :
 Calls prog 123 #[v,.func (.func 124) #[] #[]] w λe w'=>∃ v',e = .returned v'/\aI w.heap.size w' v' l/\Below w.heap.size w w':=by
 have HD:=jq h;have HF:=jq hf;obtain⟨A,c,rfl,bC,bH⟩:=ag h;clear h hf;have HE:=jq (enters_of func124 (by kernel_rfl) rfl);go_enter func123,ntmps123;go_wp2_with fail;go_loopw [5,10] (λvo i wr=>∃ (k:Nat),k<=l.length/\i = .int .i64 k/\Hid (Below w.heap.size w wr)/\Hid (aI w.heap.size wr vo (l.take k))) (λ_ i _=>l.length - (intOf i).toNat)
 case atStart=>exact⟨0,jQ _,rfl,jq (vQ _ _),jq (aI.nil _ _)⟩
 case round=>
  obtain⟨k,hk,rfl,HB,HO⟩:=hrel;have an:=HB.out.size;by_cases ab:k<l.length
  ·obtain⟨x,ac⟩:∃ x,l[k]?=some x:=⟨_,aQ ab⟩;obtain⟨A',c',hA',_,_,bU⟩:=HD.out.keep fE HB.out
   cases hA'
   obtain⟨b,o,e,rfl,cD,hlen,hce,hR⟩:=bU k _ ac;obtain rfl:=hR;have h0:wr.cell? ⟨b,o+k * 2,none⟩=some (.int .i64 x.frm):=hce 0 _ rfl;have h1:wr.cell? ⟨b,o+k * 2+1,none⟩=some (.int .i64 x.til):=hce 1 _ rfl;have hd:decide (x.frm<x.til)=true:=uQ (HF.out x (gQ ac));have HT:Hid (l.take (k+1)=l.take k ++ [x]):=jq (by
    obtain⟨hl,he⟩:=cQ.1 ac;rw[fQ hl,he])
   have HL:Hid ((l.take k).length<=100000):=jq (by rw[List.length_take]; omega);obtain⟨f,u⟩:=x;have dF:b<wr.heap.size:=by omega
   clear bU hce ac;dsimp only at h0 h1 hd;have br:Hid (∀ o,Below w.heap.size w (wr.alloc o)):=jq (λo=>HB.out.alloc HB.out.size _);go_wp2_with (fail);refine (Y2 f u _).mono ?_;rintro e w2 ⟨rfl,aa⟩;rw[hd];have ak:Hid (Below w.heap.size w w2):=jq ((br.out _).trans (aa.mono (by simp; omega)));have aC:Hid (aI w.heap.size w2 u5 (l.take k)):=jq ((HO.out.alloc _).keep aa);have c0:w2.cell? ⟨wr.heap.size,0,none⟩=some (.int .i64 f):=by rw[aa.cell (by simp)]; simp[go_sem]
   have c1:w2.cell? ⟨wr.heap.size,1,none⟩=some (.int .i64 u):=by rw[aa.cell (by simp)]; simp[go_sem]
   have aN:wr.heap.size<w2.heap.size:=by have:=aa.size; simp at this; omega
   clear aa;go_wp2_with (at_builtin; refine tn _ rfl _ _ rfl w.heap.size _ (l.take k) rfl (aC.out.alloc _) w2.heap.size f u (by simp[go_sem]) (by simp[go_sem]) (by simp[go_sem]) HL.out (by simp; omega) ?_; intro v5 w5 eN aA; have H5:=jq (And.intro eN aA); clear eN aA);go_roundw
   case rel=>exact⟨k+1,by omega,by go_num,jq ((ak.out.alloc (by omega) _).trans H5.out.2),jq (by rw[HT.out]; exact H5.out.1)⟩
   case measure=>simp[intOf] <;> omega
  ·have HE':Hid (l.take k=l):=jq (kQ (by omega));go_wp2_with fail;go_ret;exact⟨_,rfl,by have:=HO.out; rwa [HE'.out] at this,HB.out⟩
end
end Go.Proofs.YtbfbobfbgabjiaaGreatDoor
