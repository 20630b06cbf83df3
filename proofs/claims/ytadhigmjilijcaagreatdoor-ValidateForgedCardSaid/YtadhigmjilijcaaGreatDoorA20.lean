/- No condition. -/
import Derived.Test.YtadhigmjilijcaaGreatDoorA14
set_option linter.all false
set_option maxRecDepth 100000
set_option maxHeartbeats 8000000
namespace Go.Proofs.YtadhigmjilijcaaGreatDoor
open Go.Proofs.Tryz
section
open Go.RowKit
theorem WX(n:ByteArray)(w:World) :
 Calls prog 278 #[.string n] w λe w'=>e = .returned (.func (.func 297) #[] #[.pointer (some ⟨w.heap.size,0,none⟩)])/\(w'.cell? ⟨w.heap.size,0,none⟩=some (.string n)/\w.heap.size<w'.heap.size)/\Below w.heap.size w w':=by
 have HB:=jq (aj w);go_enter func278,ntmps278;go_wp2_with fail;go_ret;exact⟨rfl,⟨by go_simp,by simp⟩,HB.out _⟩
def kI{α:Type}(p:α->Bool)(l:List α):Prop:=∀ x∈l,p x=false
theorem kI.snoc{α:Type}{p:α->Bool}{xs:List α}{k:Nat}(af:k<xs.length)(h:kI p (xs.take k))(hx:p xs[k]=false):kI p (xs.take (k+1)):=by
 rw[fQ af];intro x hm;rcases List.mem_append.1 hm with h' | h'
 ·exact h x h'
 ·simp at h';subst h';exact hx
theorem kI.any{α:Type}{p:α->Bool}{xs:List α}{k:Nat}(hk:xs.length<=k)(h:kI p (xs.take k)):xs.any p=false:=by
 rw[kQ hk] at h;exact List.any_eq_false.2 λx hx=>by simp[h x hx]
theorem yK{α:Type}{p:α->Bool}{xs:List α}{k:Nat}(af:k<xs.length)(hx:p xs[k]=true):xs.any p=true:=List.any_eq_true.2 ⟨_,List.getElem_mem af,hx⟩
theorem WM(ap n:ByteArray)(ed:ap.size<=140737488355328)(cE:Np.ao n.data.toList=true)(t:Int)(kg:1<=t)(Dk:t<=8)(v1 v2:Value)(nx cv:List Np.DSet)(OE:∀ x∈nx,Np.NextOk x)(hcv:∀ x∈cv,Np.NextOk x)(w:World)(h1:SlR bO 4 w w.heap.size v1 nx)(h2:SlR bO 4 w w.heap.size v2 cv) :
 Calls prog 236 #[.string ap,.agg #[.string n,.int .i64 t],v1,v2] w (aUQ w.heap.size w (.int .i64 (Np.mb ap.data.toList t.toNat n.data.toList nx cv))):=by
 have H1:=jq h1;have H2:=jq h2;obtain⟨A1,N1,C1,rfl,Nk,_,aUY⟩:=aM h1;obtain⟨A2,N2,C2,rfl,Nl,_,aVQ⟩:=aM h2;have BD:=jq Nk;have rS:=jq Nl;have pr:=jq OE;have dJ:=jq hcv;have eC:=jq cE;obtain⟨RES,co⟩:=aRZ (Np.mb ap.data.toList t.toNat n.data.toList nx cv);rw[co];have aO:=jq co;obtain⟨w0,cN⟩:=aRZ (w.alloc (.cells #[.string n,.int .i64 t] 27));have ix:Below w.heap.size w w0:=by rw[<-cN];exact aj _ _
 have q0:w0.cell? ⟨w.heap.size,0,none⟩=some (.string n):=bD (r:=[.string n,.int .i64 t]) rfl cN 0 _ rfl;have q1:w0.cell? ⟨w.heap.size,1,none⟩=some (.int .i64 t):=bD (r:=[.string n,.int .i64 t]) rfl cN 1 _ rfl;have l0:w.heap.size<w0.heap.size:=by rw[<-cN];simp
 have aG:=jq ix;have To:=jq q1;clear h1 h2 Nk Nl OE hcv cE co ix q1;go_enter func236,ntmps236;go_wp2_with fail;clear cN;go_step3;go_wp2_with fail;refine (WX n w0).mono ?_;rintro e wf ⟨rfl,⟨Oc,Y2⟩,Gl⟩;have R3:=jq Oc;have ku:=jq (aG.out.trans (Gl.mono aG.out.size));have Tq:Hid (wf.cell? ⟨w.heap.size,1,none⟩=some (.int .i64 t)):=jq ((Gl.cell (p:=⟨w.heap.size,1,none⟩) l0).trans To.out);have lf:w.heap.size<wf.heap.size:=by omega
 have hEW:=Xo;clear q0 Oc Gl;go_wp2_with fail;go_step3;go_wp2_with fail;go_loopw [9,24] (λkd i wr=>∃ k:Nat,k<=N2/\i = .int .i64 k/\kd = .int .i64 0/\Hid (RES=Np.mb ap.data.toList t.toNat n.data.toList nx (cv.drop k))/\Hid (Below wf.heap.size wf wr)) (λ_ i _=>N2 - (intOf i).toNat)
 case atStart=>exact⟨0,jQ _,rfl,rfl,jq aO.out.symm,jq (vQ _ _)⟩
 case round=>
  obtain⟨k,hk,rfl,rfl,HK,fm⟩:=hrel;obtain⟨ws,rfl⟩:=aRX wr;have em:=jq (ku.out.trans (fm.out.mono ku.out.size));by_cases af:k<N2
  ·have fF:k<cv.length:=by rw[rS.out];exact af
   obtain⟨b,o,c2,s,dv,hA,hb,_,hs,au,hd,c0,c1,c2',c3⟩:=xG (H2.out.keep eR em.out) (k:=k) (aQ fF);simp only[Value.slice.injEq] at hA;obtain⟨rfl,-,rfl⟩:=hA;obtain⟨x,hx⟩:=aRZ (cv[k]);rw[hx] at c1 c2' hs hd;have HR:=jq (show bO ws w.heap.size [.string s,.int .i64 x.type,.int .i64 x.life,dv] x from ⟨s,dv,hs,au,hd,rfl⟩);have HX:=jq hx;have nq:=jq (dJ.out x (by rw[<-hx];exact List.getElem_mem fF));have gz:Hid (RES=match Np.xN n.data.toList x with | none=>6 | some l=>if nx.any (λy=>y.name == l&&Np.lB y t.toNat) then 5 else if nx.any (λy=>Np.fz y l&&Np.eJ ap.data.toList y l) then 6 else Np.mb ap.data.toList t.toNat n.data.toList nx (cv.drop (k+1))):=jq (by
    rw[HK.out,sQ fF,hx];rfl)
   obtain⟨dA,dn,dc,rfl,_,_,_⟩:=aM hd;have dS:=kNN k;have dp:(k:Int)<(N2:Int):=by omega
   clear hs hd hx HK;go_wp2_with fail;refine (aMY w0.heap.size n eC.out x nq.out _ _ (jG _ _ _ _ _ (eR _ _ _ _ _ HR.out ((aj ws _).mono em.out.size)) (by have:=em.out.size;simp;omega)) (((fm.out.trans ((aj ws _).mono fm.out.size)).cell (p:=⟨w0.heap.size,0,none⟩) Y2).trans R3.out)).mono ?_;rintro e w3 ⟨W,fd,rfl,hW,ai⟩;have qv:=jq (fm.out.trans (((aj ws _).trans (ai.mono (by simp))).mono fm.out.size));obtain⟨O,hO⟩:=aRZ (Np.xN n.data.toList x);rw[hO] at hW gz;have HW:=jq hW;clear hW hO ai c0 c1 c2' c3
   cases O with
   | none=>
    obtain rfl:=HW.out.2 rfl;have HE:Hid (RES=6):=gz;go_wp2_with fail;rw[Exit.noGoto_ret];go_ret;exact⟨jb HE.out.symm,ku.out.trans (qv.out.mono ku.out.size)⟩
   | some l=>
    obtain⟨rfl,NA,aWJ,Hd⟩:=HW.out.1 l rfl;have rZ:=jq NA;have KC:=jq Hd;replace gz:Hid (RES=if nx.any (λy=>y.name == l&&Np.lB y t.toNat) then 5 else if nx.any (λy=>Np.fz y l&&Np.eJ ap.data.toList y l) then 6 else Np.mb ap.data.toList t.toNat n.data.toList nx (cv.drop (k+1))):=gz;clear HW NA Hd;go_wp2_with fail;go_loopw [9,38] (λkd i wr=>∃ j:Nat,j<=N1/\i = .int .i64 j/\kd = .int .i64 0/\Hid (kI (λy:Np.DSet=>y.name == l&&Np.lB y t.toNat) (nx.take j))/\Hid (Below wf.heap.size wf wr)) (λ_ i _=>N1 - (intOf i).toNat)
    case atStart=>exact⟨0,jQ _,rfl,rfl,jq (λy hy=>by simp at hy),qv⟩
    case round=>
     obtain⟨j,hj,rfl,rfl,dG,pm⟩:=hrel;obtain⟨wt,rfl⟩:=aRX wr;have iJ:=jq (ku.out.trans (pm.out.mono ku.out.size));by_cases Zb:j<N1
     ·have ou:j<nx.length:=by rw[BD.out];exact Zb
      obtain⟨b,o,c2,s,dv,hA,hb,_,hs,au,hd,c0,c1,c2',c3⟩:=xG (H1.out.keep eR iJ.out) (k:=j) (aQ ou);simp only[Value.slice.injEq] at hA;obtain⟨rfl,-,rfl⟩:=hA;obtain⟨y,hy⟩:=aRZ (nx[j]);rw[hy] at c1 c2' hs hd;have d8:=jq (show bO wt w.heap.size [.string s,.int .i64 y.type,.int .i64 y.life,dv] y from ⟨s,dv,hs,au,hd,rfl⟩);have HY:=jq hy;have B2:=jq (pr.out y (by rw[<-hy];exact List.getElem_mem ou));have jM:=jq hs;obtain⟨eA,en,ec,rfl,_,_,_⟩:=aM hd;have wV:=kNN j;have zK:(j:Int)<(N1:Int):=by omega
      clear hs hd hy;by_cases di:s.data.toList=l
      ·have ZF:(s.toList == W.toList)=true:=by rw[dQ,dQ,di,rZ.out];simp
       have kx:Hid ((y.name == l)=true):=jq (by rw[<-jM.out,di];simp);have kq:wt.cell? ⟨w.heap.size,1,none⟩=some (.int .i64 t):=(pm.out.cell (p:=⟨w.heap.size,1,none⟩) lf).trans Tq.out;have lt:w.heap.size<wt.heap.size:=by have:=pm.out.size;omega
       clear di;go_wp2_with fail;refine (Mr y B2.out _ _ (jG _ _ _ _ _ (eR _ _ _ _ _ d8.out ((aj wt _).mono iJ.out.size)) (by have:=iJ.out.size;simp;omega)) t kg Dk).mono ?_;rintro e w4 ⟨rfl,av⟩;have kw:=jq (pm.out.trans (((aj wt _).trans (av.mono (by simp))).mono pm.out.size));obtain⟨r,hr⟩:=aRZ (Np.lB y t.toNat);rw[hr];have gM:Hid ((nx[j].name == l&&Np.lB nx[j] t.toNat)=r):=jq (by rw[HY.out,kx.out,hr];rfl);clear hr av c0 c1 c2' c3 kq
       cases r with
       | true=>
        have HE:Hid (RES=5):=jq (by rw[gz.out,QbQ (yK ou gM.out)]);go_wp2_with fail;rw[Exit.noGoto_ret];go_ret;exact⟨jb HE.out.symm,ku.out.trans (kw.out.mono ku.out.size)⟩
       | false=>
        go_wp2_with fail;go_roundw
        case rel=>exact⟨j+1,by omega,by go_num,rfl,jq (kI.snoc (p:=λy:Np.DSet=>y.name == l&&Np.lB y t.toNat) ou dG.out gM.out),kw⟩
        ·simp[intOf]<;>omega
      ·have ZF:(s.toList == W.toList)=false:=by rw[dQ,dQ,rZ.out];simpa using di
       have gM:Hid ((nx[j].name == l&&Np.lB nx[j] t.toNat)=false):=jq (by rw[HY.out,<-jM.out,show (s.data.toList == l)=false by simpa using di];rfl);have kw:=jq (λob=>pm.out.trans ((aj wt ob).mono pm.out.size));clear di;go_wp2_with fail;go_roundw
       case rel=>exact⟨j+1,by omega,by go_num,rfl,jq (kI.snoc (p:=λy:Np.DSet=>y.name == l&&Np.lB y t.toNat) ou dG.out gM.out),jq (kw.out _)⟩
       ·simp[intOf]<;>omega
     ·have bX:=dG.out.any (by rw[BD.out];omega);have iL:Hid (RES=if nx.any (λy=>Np.fz y l&&Np.eJ ap.data.toList y l) then 6 else Np.mb ap.data.toList t.toNat n.data.toList nx (cv.drop (k+1))):=jq (by rw[gz.out,bX];rfl);clear bX gz dG;go_wp2_with fail;go_loopw [9,55] (λkd i wr=>∃ j:Nat,j<=N1/\i = .int .i64 j/\kd = .int .i64 0/\Hid (kI (λy:Np.DSet=>Np.fz y l&&Np.eJ ap.data.toList y l) (nx.take j))/\Hid (Below wf.heap.size wf wr)) (λ_ i _=>N1 - (intOf i).toNat)
      case atStart=>exact⟨0,jQ _,rfl,rfl,jq (λy hy=>by simp at hy),pm⟩
      case round=>
       obtain⟨j2,GJ,rfl,rfl,dG,iI⟩:=hrel;obtain⟨wu,rfl⟩:=aRX wr;have nj:=jq (ku.out.trans (iI.out.mono ku.out.size));by_cases Zc:j2<N1
       ·have ou:j2<nx.length:=by rw[BD.out];exact Zc
        obtain⟨b,o,c2,s,dv,hA,hb,_,hs,au,hd,c0,c1,c2',c3⟩:=xG (H1.out.keep eR nj.out) (k:=j2) (aQ ou);simp only[Value.slice.injEq] at hA;obtain⟨rfl,-,rfl⟩:=hA;obtain⟨y,hy⟩:=aRZ (nx[j2]);rw[hy] at c1 c2' hs hd;have d8:=jq (show bO wu w.heap.size [.string s,.int .i64 y.type,.int .i64 y.life,dv] y from ⟨s,dv,hs,au,hd,rfl⟩);have HY:=jq hy;have B2:=jq (pr.out y (by rw[<-hy];exact List.getElem_mem ou));obtain⟨eA,en,ec,rfl,_,_,_⟩:=aM hd;have wV:(0:Int)<=(j2:Int):=by omega
        have zK:(j2:Int)<(N1:Int):=by omega
        clear hs hd hy;go_wp2_with fail;refine (Ms y B2.out _ _ (jG _ _ _ _ _ (eR _ _ _ _ _ d8.out ((aj wu _).mono nj.out.size)) (by have:=nj.out.size;simp;omega)) W (by omega)).mono ?_;rintro e w4 ⟨rfl,av⟩;have eG:=jq (show Below wu.heap.size wu w4 from (aj wu _).trans (av.mono (by simp)));have kw:=jq (iI.out.trans (eG.out.mono iI.out.size));obtain⟨r,hr⟩:=aRZ (Np.fz y W.data.toList);rw[hr];have Kc:Hid (Np.fz y l=r):=jq (by rw[<-rZ.out,hr])
        cases r with
        | false=>
         have gM:Hid ((Np.fz nx[j2] l&&Np.eJ ap.data.toList nx[j2] l)=false):=jq (by rw[HY.out,Kc.out];rfl);clear hr av c0 c1 c2' c3;go_wp2_with fail;go_roundw
         case rel=>exact⟨j2+1,by omega,by go_num,rfl,jq (kI.snoc (p:=λy:Np.DSet=>Np.fz y l&&Np.eJ ap.data.toList y l) ou dG.out gM.out),kw⟩
         ·simp[intOf]<;>omega
        | true=>
         have l4:wu.heap.size<w4.heap.size:=by have:=av.size;simp only[World.size_alloc] at this;omega
         obtain⟨c4,f4⟩:=dd av;clear hr av c0 c1 c2' c3;go_wp2_with fail;refine (Ch ap ed y B2.out _ _ (jG _ _ _ _ _ (eR _ _ _ _ _ d8.out (eG.out.mono nj.out.size)) (by have:=nj.out.size;omega)) W (by omega)).mono ?_;rintro e w5 ⟨rfl,aI⟩;have JC:=jq (kw.out.trans (aI.mono kw.out.size));obtain⟨r,hr⟩:=aRZ (Np.eJ ap.data.toList y W.data.toList);rw[hr];have gM:Hid ((Np.fz nx[j2] l&&Np.eJ ap.data.toList nx[j2] l)=r):=jq (by rw[HY.out,Kc.out,<-rZ.out,hr];rfl);clear hr aI c4 f4
         cases r with
         | true=>
          have HE:Hid (RES=6):=jq (by rw[iL.out,QbQ (yK ou gM.out)]);go_wp2_with fail;rw[Exit.noGoto_ret];go_ret;exact⟨jb HE.out.symm,ku.out.trans (JC.out.mono ku.out.size)⟩
         | false=>
          go_wp2_with fail;go_roundw
          case rel=>exact⟨j2+1,by omega,by go_num,rfl,jq (kI.snoc (p:=λy:Np.DSet=>Np.fz y l&&Np.eJ ap.data.toList y l) ou dG.out gM.out),JC⟩
          ·simp[intOf]<;>omega
       ·have bX:=dG.out.any (by rw[BD.out];omega);have lM:Hid (RES=Np.mb ap.data.toList t.toNat n.data.toList nx (cv.drop (k+1))):=jq (by rw[iL.out,bX];rfl);clear bX iL dG;go_wp2_with fail;go_roundw
        case rel=>exact⟨k+1,by omega,by go_num,rfl,lM,iI⟩
        ·simp[intOf]<;>omega
  ·have HE:Hid (RES=0):=jq (by rw[HK.out,List.drop_eq_nil_of_le (by rw[rS.out];omega)];rfl);clear HK;go_wp2_with fail;rw[Exit.noGoto_ret];go_ret;exact⟨jb HE.out.symm,em.out⟩
def Q3(w0:World)(X:Nat)(ap n:ByteArray)(t:Int):Prop:=∀ w',Below w0.heap.size w0 w'->w'.cell? ⟨X,0,none⟩=some (.string ap)/\w'.cell? ⟨X+1,0,none⟩=some (.string n)/\w'.cell? ⟨X+1,1,none⟩=some (.int .i64 t)/\X+1<w'.heap.size
theorem WK{w w0 w1:World}{ap n:ByteArray}{t:Int}{T1 T2:TypeId}(h1:w.alloc (.cells #[.string ap] T1)=w1)(h2:w1.alloc (.cells #[.string n,.int .i64 t] T2)=w0):Q3 w0 w.heap.size ap n t:=λw' hb=>by
 have z1:w1.heap.size=w.heap.size+1:=by rw[<-h1];simp
 have z0:w0.heap.size=w.heap.size+2:=by rw[<-h2];simp[z1]
 have ay:Below w1.heap.size w1 w0:=by rw[<-h2];exact aj _ _
 have hs:=hb.size;refine⟨?_,?_,?_,by omega⟩
 ·rw[hb.cell (by dsimp only;omega),ay.cell (by dsimp only;omega)];exact bD (r:=[.string ap]) rfl h1 0 _ rfl
 ·rw[hb.cell (by dsimp only;omega)];exact bD (r:=[.string n,.int .i64 t]) z1 h2 0 _ rfl
 ·rw[hb.cell (by dsimp only;omega)];exact bD (r:=[.string n,.int .i64 t]) z1 h2 1 _ rfl
def Mm(p:Int×Int):Value:=.tuple #[.int .i64 p.1,.int .i64 p.2]
theorem WN(ap n:ByteArray)(ed:ap.size<=140737488355328)(hn:n.size<=140737488355328)(t:Int)(v:Value)(l:List Np.DSet)(hl9:l.length<=1000)(w:World)(hR:bL w w.heap.size)(h:SlR bO 4 w w.heap.size v l) :
 Calls prog 161 #[.string ap,.agg #[.string n,.int .i64 t],v] w (aUQ w.heap.size w (Mm (Np.nu ap.data.toList n.data.toList t l))):=by
 have H:=jq h;have HR:=jq hR;obtain⟨A,N,C,rfl,hN,_,_⟩:=aM h;have HN:=jq hN;have Cz:N<=1000:=by omega
 obtain⟨RES,co⟩:=aRZ (Np.nu ap.data.toList n.data.toList t l);rw[co];have aO:Hid (RES=if !Np.rF ap.data.toList||!(Np.ao n.data.toList&&(decide (1<=t)&&decide (t<=8))) then (0,1) else
  if l.any λs=>!Np.bo s then (0,1) else
  if !Np.aT n.data.toList ap.data.toList||(n.data.toList == ap.data.toList&&decide (t=6)) then (0,0) else
  if ((l.filter (Np.fy ap.data.toList)).filter λs=>Np.fz s n.data.toList).any (Np.ry ap.data.toList t.toNat n.data.toList) then (5,0) else
  (Np.mb ap.data.toList t.toNat n.data.toList (l.filter (Np.fy ap.data.toList)) (((l.filter (Np.fy ap.data.toList)).filter λs=>Np.fz s n.data.toList).filter λs=>Np.eJ ap.data.toList s n.data.toList),0)):=jq (by rw[<-co];unfold Np.nu;simp only[Bool.and_assoc])
 obtain⟨w1,ah⟩:=aRZ (w.alloc (.cells #[.string ap] 9));obtain⟨w0,cN⟩:=aRZ (w1.alloc (.cells #[.string n,.int .i64 t] 27));have HQ:=jq (WK ah cN);have aG:Hid (Below w.heap.size w w0):=jq (by rw[<-cN,<-ah];exact (blAl).alloc (by simp) _);have z1:w1.heap.size=w.heap.size+1:=by rw[<-ah];simp
 clear h hR hN co;go_enter func161,ntmps161;obtain⟨a0,q0,q1,l0⟩:=HQ.out w0 (vQ _ _);go_wp2_with fail;clear cN ah z1;go_wp2_with fail;refine (QE ap ed w0).mono ?_;rintro e w2 ⟨rfl,hb⟩;have ax:=jq hb;have dL:=jq (aG.out.trans (hb.mono aG.out.size));obtain⟨a2,q02,q12,l2⟩:=HQ.out w2 hb;obtain⟨r,hr⟩:=aRZ (Np.rF ap.data.toList);rw[hr] at aO |-;clear hr hb a0 q0 q1 l0
 cases r with
 | false=>
  have HE:Hid (RES=(0,1)):=aO;clear aO;go_wp2_with fail;go_ret2;exact⟨by rw[HE.out];rfl,dL.out⟩
 | true=>
  go_wp2_with fail;refine (WT n hn t w2).mono ?_;rintro e w3 ⟨rfl,hb⟩;have am:=jq (ax.out.trans (hb.mono ax.out.size));have dM:=jq (aG.out.trans (am.out.mono aG.out.size));obtain⟨a3,q03,q13,l3⟩:=HQ.out w3 am.out;obtain⟨r,hr⟩:=aRZ (Np.ao n.data.toList&&(decide (1<=t)&&decide (t<=8)));rw[hr] at aO |-;have Ki:=jq hr;clear hr hb a2 q02 q12 l2
  cases r with
  | false=>
   have HE:Hid (RES=(0,1)):=aO;clear aO;go_wp2_with fail;go_ret2;exact⟨by rw[HE.out];rfl,dM.out⟩
  | true=>
   have OL:=Ki.out;simp only[Bool.and_eq_true,Qa] at OL;obtain⟨cE,kg,Dk⟩:=OL;have eC:=jq cE;clear cE Ki;replace aO:Hid (RES=if l.any λs=>!Np.bo s then (0,1) else
    if !Np.aT n.data.toList ap.data.toList||(n.data.toList == ap.data.toList&&decide (t=6)) then (0,0) else
    if ((l.filter (Np.fy ap.data.toList)).filter λs=>Np.fz s n.data.toList).any (Np.ry ap.data.toList t.toNat n.data.toList) then (5,0) else
    (Np.mb ap.data.toList t.toNat n.data.toList (l.filter (Np.fy ap.data.toList)) (((l.filter (Np.fy ap.data.toList)).filter λs=>Np.fz s n.data.toList).filter λs=>Np.eJ ap.data.toList s n.data.toList),0)):=aO
   go_wp2_with fail;clear a3 q03 q13 l3;go_loopw [26] (λi wr=>∃ k:Nat,k<=N/\i = .int .i64 k/\Hid (kI (λs=>!Np.bo s) (l.take k))/\Hid (Below w0.heap.size w0 wr)) (λi _=>N - (intOf i).toNat)
   case atStart=>exact⟨0,jQ _,rfl,jq (λy hy=>by simp at hy),am⟩
   case round=>
    obtain⟨k,hk,rfl,dG,fm⟩:=hrel;obtain⟨ws,rfl⟩:=aRX wr;have em:=jq (aG.out.trans (fm.out.mono aG.out.size));by_cases af:k<N
    ·have fF:k<l.length:=by rw[HN.out];exact af
     obtain⟨b,o,c2,s,dv,hA,hb,_,hs,au,hd,c0,c1,c2',c3⟩:=xG (H.out.later eR jG em.out) (k:=k) (aQ fF);simp only[Value.slice.injEq] at hA;obtain⟨rfl,-,rfl⟩:=hA;obtain⟨x,hx⟩:=aRZ (l[k]);rw[hx] at c1 c2' hs hd;have HX:=jq hx;have HS:=jq hs;have HD:=jq hd;obtain⟨dA,dn,dc,rfl,_,_,_⟩:=aM hd;have dS:=kNN k;have dp:(k:Int)<(N:Int):=by omega
     clear hs hd hx;go_wp2_with fail;refine (oX s au x.type x.life _ x.data _ ((HR.out.keep (em.out.trans ((aj ws _).mono em.out.size))).more (by have:=em.out.size;simp;omega)) (HD.out.later br bB (aj ws _))).mono ?_;rintro e w4 ⟨rfl,av⟩;have kw:=jq (fm.out.trans (((aj ws _).trans (av.mono (by simp))).mono fm.out.size));have Av:(⟨s.data.toList,x.type,x.life,x.data⟩:Np.DSet)=x:=by rw[HS.out]
     rw[Av];obtain⟨r,hr⟩:=aRZ (Np.bo x);rw[hr];have gM:Hid ((!Np.bo l[k])=!r):=jq (by rw[HX.out,hr]);clear hr av c0 c1 c2' c3 Av
     cases r with
     | false=>
      have HE:Hid (RES=(0,1)):=jq (by rw[aO.out,QbQ (yK fF gM.out)]);clear aO;go_wp2_with fail;go_ret2;exact⟨by rw[HE.out];rfl,aG.out.trans (kw.out.mono aG.out.size)⟩
     | true=>
      go_wp2_with fail;go_roundw
      case rel=>exact⟨k+1,by omega,by go_num,jq (kI.snoc (p:=λs=>!Np.bo s) fF dG.out gM.out),kw⟩
      ·simp[intOf]<;>omega
    ·have bX:=dG.out.any (by rw[HN.out];omega);have KC:Hid (∀ x∈l,Np.bo x=true):=jq (λx hx=>by have:=List.any_eq_false.1 bX x hx;simpa using this);replace aO:Hid (RES=if !Np.aT n.data.toList ap.data.toList||(n.data.toList == ap.data.toList&&decide (t=6)) then (0,0) else
      if ((l.filter (Np.fy ap.data.toList)).filter λs=>Np.fz s n.data.toList).any (Np.ry ap.data.toList t.toNat n.data.toList) then (5,0) else
      (Np.mb ap.data.toList t.toNat n.data.toList (l.filter (Np.fy ap.data.toList)) (((l.filter (Np.fy ap.data.toList)).filter λs=>Np.fz s n.data.toList).filter λs=>Np.eJ ap.data.toList s n.data.toList),0)):=jq (by rw[aO.out,bX];rfl)
     clear bX dG;obtain⟨G,hG⟩:=aRZ (!Np.aT n.data.toList ap.data.toList||(n.data.toList == ap.data.toList&&decide (t=6)));rw[hG] at aO;have HG:=jq hG;clear hG;go_upto_region 9 with fail
     go_cut [49] (λc wx=>c = .bool G/\Hid (Below w0.heap.size w0 wx))
     case first=>
      obtain⟨a4,q04,q14,l4⟩:=HQ.out ws fm.out;go_wp2_with fail;refine (wg n ap hn ed ws).mono ?_;rintro e w5 ⟨rfl,hb⟩;have aK:=jq (fm.out.trans (hb.mono fm.out.size));obtain⟨a5,q05,q15,l5⟩:=HQ.out w5 aK.out;obtain⟨r,hr⟩:=aRZ (Np.aT n.data.toList ap.data.toList);rw[hr];have HU:=jq hr;clear hr hb a4 q04 q14 l4
      cases r with
      | false=>
       go_wp2_with fail;go_meet
       case rel=>exact⟨by rw[<-HG.out,HU.out];rfl,aK⟩
      | true=>
       by_cases hne:n.data.toList=ap.data.toList
       ·have dp:(n.toList == ap.toList)=true:=by rw[dQ,dQ,hne];simp
        have kx:Hid ((n.data.toList == ap.data.toList)=true):=jq (by rw[hne];simp);obtain⟨t6,tb⟩:=aRZ (t == 6);have yv:Hid (decide (t=6)=t6):=jq (by rw[<-tb,Bool.eq_iff_iff];simp);clear hne;go_wp2_with fail;go_meet
        case rel=>exact⟨by rw[<-HG.out,HU.out,kx.out,yv.out];rfl,aK⟩
       ·have dp:(n.toList == ap.toList)=false:=by rw[dQ,dQ];simpa using hne
        have kx:Hid ((n.data.toList == ap.data.toList)=false):=jq (by simpa using hne);clear hne;go_wp2_with fail;go_meet
        case rel=>exact⟨by rw[<-HG.out,HU.out,kx.out];rfl,aK⟩
     case rest=>
      obtain⟨rfl,fL⟩:=hcut;obtain⟨wd,rfl⟩:=aRX wc;have KE:=jq (aG.out.trans (fL.out.mono aG.out.size))
      cases G with
      | true=>
       have HE:Hid (RES=(0,0)):=aO;clear aO;go_wp2_with fail;go_ret2;exact⟨by rw[HE.out];rfl,KE.out⟩
      | false=>
       obtain⟨NX,zh⟩:=aRZ (l.filter (Np.fy ap.data.toList));have F3:∀ x∈NX,Np.NextOk x:=λx hx=>by
        rw[<-zh] at hx;obtain⟨h1,h2⟩:=List.mem_filter.1 hx;unfold Np.fy at h2;simp only[Bool.and_eq_true,Qa] at h2;exact⟨KC.out x h1,h2.1⟩
       have No:NX.length<=1000:=by rw[<-zh];have:=List.length_filter_le (Np.fy ap.data.toList) l;omega
       obtain⟨SP,zq⟩:=aRZ (NX.filter (λs=>Np.fz s n.data.toList));have F8:∀ x∈SP,Np.NextOk x:=λx hx=>by
        rw[<-zq] at hx;exact F3 x (List.mem_filter.1 hx).1
       have Nz:SP.length<=1000:=by rw[<-zq];have:=List.length_filter_le (λs=>Np.fz s n.data.toList) NX;omega
       obtain⟨CV,qR⟩:=aRZ (SP.filter (λs=>Np.eJ ap.data.toList s n.data.toList));have M6:∀ x∈CV,Np.NextOk x:=λx hx=>by
        rw[<-qR] at hx;exact F8 x (List.mem_filter.1 hx).1
       have d8:Hid (RES=if SP.any (Np.ry ap.data.toList t.toNat n.data.toList) then (5,0) else (Np.mb ap.data.toList t.toNat n.data.toList NX CV,0)):=jq (by rw[aO.out,zh,zq,qR];rfl);have pr:=jq zh;have EY:=jq zq;have dJ:=jq qR;have J6:=jq F3;have Kx:=jq F8;have RO:=jq M6;have Kw:=jq (And.intro No Nz);clear aO zh zq qR F3 F8 M6 No Nz;go_wp2_with fail;refine (Iv 228 W5 #[.pointer (some ⟨w.heap.size,0,none⟩)] (Np.fy ap.data.toList) _ l wd (H.out.later eR jG KE.out) (by omega) (λW x e hx hb he=>WH w.heap.size ap ed x e W he (HQ.out W (fL.out.trans (hb.mono fL.out.size))).1)).mono ?_;rintro e w6 ⟨v6,rfl,uU,bh⟩;rw[pr.out] at uU;have EX:=jq uU;have aU:=jq (fL.out.trans (bh.mono fL.out.size));obtain⟨A6,N6,C6,rfl,_,_,_⟩:=aM uU;clear uU bh;go_wp2_with fail;refine (Iv 230 W6 #[.pointer (some ⟨w.heap.size+1,0,none⟩)] (λs=>Np.fz s n.data.toList) _ NX w6 EX.out Kw.out.1 (λW x e hx hb he=>WI (w.heap.size+1) n hn x (J6.out x hx) e W he (HQ.out W (aU.out.trans (hb.mono aU.out.size))).2.1)).mono ?_;rintro e w7 ⟨v7,rfl,Aj,bm⟩;rw[EY.out] at Aj;have Kv:=jq Aj;have cL:=jq (aU.out.trans (bm.mono aU.out.size));have TS:=jq (EX.out.later eR jG bm);obtain⟨A7,N7,C7,rfl,Nn,_,aVK⟩:=aM Aj;have J5:=jq Nn;clear Aj bm Nn EX;go_upto_region 13 with fail
       go_cut [12] (λc wx=>c = .bool (decide (t=6)||decide (t=8))/\wx=w7)
       case first=>
        obtain⟨a4,q04,q14,l4⟩:=HQ.out w7 cL.out;by_cases tb:t=6
        ·have ZK:(t == 6)=true:=by simpa using tb
         have yv:Hid (decide (t=6)=true):=jq (uQ tb);clear tb;go_wp2_with fail;go_meet
         case rel=>exact⟨by rw[yv.out];rfl,rfl⟩
        ·have ZK:(t == 6)=false:=by simpa using tb
         have yv:Hid (decide (t=6)=false):=jq (tQ tb);obtain⟨t8,ZL⟩:=aRZ (t == 8);have Ub:Hid (decide (t=8)=t8):=jq (by rw[<-ZL,Bool.eq_iff_iff];simp);clear tb;go_wp2_with fail;go_meet
         case rel=>exact⟨by rw[yv.out,Ub.out];rfl,rfl⟩
       case rest=>
        obtain⟨rfl,Hk⟩:=hcut;replace Hk:=Hk.symm;subst Hk;obtain⟨AB,FN⟩:=aRZ (decide (t=6)||decide (t=8));rw[FN];have Rl:=jq FN;clear FN;go_wp2_with fail;go_loopw [66] (λi wr=>∃ k:Nat,k<=N7/\i = .int .i64 k/\Hid (kI (Np.ry ap.data.toList t.toNat n.data.toList) (SP.take k))/\Hid (Below w7.heap.size w7 wr)) (λi _=>N7 - (intOf i).toNat)
        case atStart=>exact⟨0,jQ _,rfl,jq (λy hy=>by simp at hy),jq (vQ _ _)⟩
        case round=>
         obtain⟨k,hk,rfl,dG,fm⟩:=hrel;obtain⟨ws,rfl⟩:=aRX wr;have cT:=jq (cL.out.trans (fm.out.mono cL.out.size));by_cases af:k<N7
         ·have fF:k<SP.length:=by rw[J5.out];exact af
          obtain⟨b,o,c2,s,dv,hA,hb,_,hs,au,hd,c0,c1,c2',c3⟩:=xG (Kv.out.keep eR fm.out) (k:=k) (aQ fF);simp only[Value.slice.injEq] at hA;obtain⟨rfl,-,rfl⟩:=hA;obtain⟨x,hx⟩:=aRZ (SP[k]);rw[hx] at c1 c2' hs hd;have nq:=jq (Kx.out x (by rw[<-hx];exact List.getElem_mem fF));have kM:bO ws w7.heap.size [.string s,.int .i64 x.type,.int .i64 x.life,dv] x:=⟨s,dv,hs,au,hd,rfl⟩;obtain⟨s2,tx,bb,oo,kk,cc,nn,mm,hE,_,GN,_,_,_,ii,_,rh,uY,mv,_,_,_,d0,_,_⟩:=xB kM nq.out;simp only[List.cons.injEq,Value.string.injEq,Value.int.injEq,true_and,and_true] at hE;obtain⟨rfl,dt,rfl⟩:=hE;rw[dt] at c1 kM;clear dt;have HX:=jq hx;have iu:=jq kM;have Uc:=jq rh;have HS:=jq hs;have dS:=kNN k;have dp:(k:Int)<(N7:Int):=by omega
          have a1K:(0:Int)<(kk:Int):=by omega
          obtain⟨CA,sF⟩:=aRZ (x.name == n.data.toList&&(Np.lB x t.toNat&&(AB||!Np.nM x)));obtain⟨CB,sG⟩:=aRZ (Np.eJ ap.data.toList x n.data.toList&&Np.aT (Np.gY x) n.data.toList);have rL:=jq sF;have ef:=jq sG;have EL:Hid (Np.ry ap.data.toList t.toNat n.data.toList SP[k]=(CA||CB)):=jq (by
           rw[hx,<-sF,<-sG,<-Rl.out];unfold Np.ry;rw[show decide (t.toNat=6)=decide (t=6) by rw[Bool.eq_iff_iff];simp only[Qa];omega,show decide (t.toNat=8)=decide (t=8) by rw[Bool.eq_iff_iff];simp only[Qa];omega])
          clear hs hd hx kM rh mv sF sG;go_upto_region 17 with fail
          obtain⟨wy,mZ⟩:=aRZ (ws.alloc (.cells #[.string s,.int .i64 8,.int .i64 x.life,.slice (some ⟨bb,oo,none⟩) kk cc] 25));rw[mZ];have fY:=bD (r:=[.string s,.int .i64 8,.int .i64 x.life,.slice (some ⟨bb,oo,none⟩) kk cc]) rfl mZ;have dX:=jq fY;have dZ:Below ws.heap.size ws wy:=by rw[<-mZ];exact aj _ _
          have qc:ws.heap.size<wy.heap.size:=by rw[<-mZ];simp
          have nT:=jq (cT.out.trans (dZ.mono cT.out.size));have Rv:=jq (dZ.mono fm.out.size);have qE:=jq (eR _ _ _ _ _ iu.out (dZ.mono fm.out.size));have a5Y:=fm.out.size;have Oa:wy.cell? ⟨bb,oo,none⟩=some (.string tx):=aQY dZ d0;have RY:=jq Oa;clear mZ fY dZ c0 c1 c2' c3 d0 Oa;have se:Hid (∀ wz,Below wy.heap.size wy wz->∀ (j:Nat) u,[Value.string s,.int .i64 8,.int .i64 x.life,.slice (some ⟨bb,oo,none⟩) kk cc][j]?=some u->wz.cell? ⟨ws.heap.size,j,none⟩=some u):=jq (λwz hb j u hj=>(hb.cell (p:=⟨ws.heap.size,j,none⟩) qc).trans (dX.out j u hj));go_cut [88] (λc wx=>c = .bool CA/\Hid (Below wy.heap.size wy wx))
          case first=>
           obtain⟨a4,q04,q14,l4⟩:=HQ.out wy nT.out;have y0:=dX.out 0 _ rfl;have y1:=dX.out 1 _ rfl;have y2:=dX.out 2 _ rfl;have y3:=dX.out 3 _ rfl;by_cases hne:s.data.toList=n.data.toList
           ·have dp:(s.toList == n.toList)=true:=by rw[dQ,dQ,hne];simp
            have kx:Hid ((x.name == n.data.toList)=true):=jq (by rw[<-HS.out,hne];simp);clear hne;go_wp2_with fail;refine (Mr x nq.out _ _ (jG _ _ _ _ _ qE.out (by omega)) t kg Dk).mono ?_;rintro e wa ⟨rfl,mR⟩;have fl:=jq mR;obtain⟨r,hr⟩:=aRZ (Np.lB x t.toNat);rw[hr];have yr:=jq hr;clear hr mR
            cases r with
            | false=>
             go_wp2_with fail;go_meet
             case rel=>exact⟨by rw[<-rL.out,kx.out,yr.out];rfl,fl⟩
            | true=>
             cases AB with
             | true=>
              go_wp2_with fail;go_meet
              case rel=>exact⟨by rw[<-rL.out,kx.out,yr.out];rfl,fl⟩
             | false=>
              have x0:=se.out wa fl.out 0 _ rfl;have x1:=se.out wa fl.out 1 _ rfl;have x2:=se.out wa fl.out 2 _ rfl;have x3:=se.out wa fl.out 3 _ rfl;go_wp2_with fail;refine (Mq x nq.out _ _ (jG _ _ _ _ _ (eR _ _ _ _ _ qE.out (fl.out.aSZ)) (by have:=fl.out.size;omega))).mono ?_;rintro e wb ⟨rfl,ii⟩;have dW:=jq (fl.out.trans (ii.mono fl.out.size));obtain⟨r,hr⟩:=aRZ (Np.nM x);rw[hr];have Th:=jq hr;clear hr ii;go_wp2_with fail;go_meet
              case rel=>exact⟨by rw[<-rL.out,kx.out,yr.out,Th.out];rfl,dW⟩
           ·have dp:(s.toList == n.toList)=false:=by rw[dQ,dQ];simpa using hne
            have kx:Hid ((x.name == n.data.toList)=false):=jq (by rw[<-HS.out];simpa using hne);clear hne;go_wp2_with fail;go_meet
            case rel=>exact⟨by rw[<-rL.out,kx.out];rfl,jq (vQ _ _)⟩
          case rest=>
           obtain⟨rfl,kr⟩:=hcut;obtain⟨wd2,rfl⟩:=aRX wc;have aD:=jq (nT.out.trans (kr.out.mono nT.out.size))
           cases CA with
           | true=>
            have HE:Hid (RES=(5,0)):=jq (by rw[d8.out,QbQ (yK fF (by rw[EL.out];rfl))]);go_wp2_with fail;go_ret2;exact⟨by rw[HE.out];rfl,aG.out.trans (aD.out.mono aG.out.size)⟩
           | false=>
            go_upto_region 19 with fail
            go_cut [103] (λc wx=>c = .bool CB/\Hid (Below wy.heap.size wy wx))
            case first=>
             obtain⟨a4,q04,q14,l4⟩:=HQ.out wd2 aD.out;have y0:=se.out wd2 kr.out 0 _ rfl;have y1:=se.out wd2 kr.out 1 _ rfl;have y2:=se.out wd2 kr.out 2 _ rfl;have y3:=se.out wd2 kr.out 3 _ rfl;have d1:wd2.cell? ⟨bb,oo,none⟩=some (.string tx):=aQY kr.out RY.out;have wR:∀ (g:bA wd2) (p:Addr),p.block<wd2.heap.size->g.w.cell? p=wd2.cell? p:=λg p h=>g.cell p h;have lb:bb<wd2.heap.size:=by have:=kr.out.size;omega
             have ly:ws.heap.size<wd2.heap.size:=by have:=kr.out.size;omega
             have lx:w.heap.size<wd2.heap.size:=by omega
             have bi:∀ g:bA wd2,Calls prog 234 #[.string ap,.agg #[.string s,.int .i64 8,.int .i64 x.life,.slice (some ⟨bb,oo,none⟩) kk cc],.string n] g.w λe w'=>e = .returned (.bool (Np.eJ ap.data.toList x n.data.toList))/\Below g.w.heap.size g.w w':=λg=>
              Ch ap ed x nq.out _ g.w (jG _ _ _ _ _ (eR _ _ _ _ _ qE.out ((kr.out.aSZ).trans (g.below.mono (by have:=kr.out.size;omega)))) (by have:=g.below.size;have:=kr.out.size;omega)) n hn
             have dR:∀ g:bA wd2,Calls prog 226 #[.string tx,.string n] g.w λe w'=>e = .returned (.bool (Np.aT (Np.gY x) n.data.toList))/\Below g.w.heap.size g.w w':=λg=>by
              rw[<-Uc.out];exact wg tx n (by omega) hn g.w
             obtain⟨rc,nF⟩:=aRZ (Np.eJ ap.data.toList x n.data.toList);obtain⟨ru,G1⟩:=aRZ (Np.aT (Np.gY x) n.data.toList);rw[nF] at bi;rw[G1] at dR;have BK:=jq nF;have dK:=jq G1;have cy:=jq bi;have gd:=jq dR;clear bi dR nF G1
             cases rc with
             | false=>
              refine aTX ?_
              repeat (go_big_quiet_step (fail))
              go_big_quiet_step ((go_at_call 234;exact Calls.grow_of (cy.out _)))
              repeat (go_big_quiet_step (fail))
              refine wpQuiet_nil ?_;rintro _ ⟨g,rfl⟩;have HE:=jq (kr.out.trans (g.below.mono kr.out.size));go_wp2_with fail;go_meet
              case rel=>exact⟨by rw[<-ef.out,BK.out];rfl,HE⟩
             | true=>
              refine aTX ?_
              repeat (go_big_quiet_step (fail))
              go_big_quiet_step ((go_at_call 234;exact Calls.grow_of (cy.out _)))
              repeat (go_big_quiet_step (fail))
              go_big_quiet_step ((go_at_call 226;exact Calls.grow_of (gd.out _)))
              repeat (go_big_quiet_step (fail))
              refine wpQuiet_nil ?_;rintro _ ⟨g,rfl⟩;have HE:=jq (kr.out.trans (g.below.mono kr.out.size));go_wp2_with fail;go_meet
              case rel=>exact⟨by rw[<-ef.out,BK.out,dK.out];rfl,HE⟩
            case rest=>
             obtain⟨rfl,JB⟩:=hcut;obtain⟨wd3,rfl⟩:=aRX wc;have Ru:=jq (nT.out.trans (JB.out.mono nT.out.size))
             cases CB with
             | true=>
              have HE:Hid (RES=(5,0)):=jq (by rw[d8.out,QbQ (yK fF (by rw[EL.out];rfl))]);go_wp2_with fail;go_ret2;exact⟨by rw[HE.out];rfl,aG.out.trans (Ru.out.mono aG.out.size)⟩
             | false=>
              have Rw:Hid (Below w7.heap.size w7 wd3):=jq (fm.out.trans (Rv.out.trans (JB.out.aSZ)));go_wp2_with fail;go_roundw
              case rel=>exact⟨k+1,by omega,by go_num,jq (kI.snoc (p:=Np.ry ap.data.toList t.toNat n.data.toList) fF dG.out EL.out),Rw⟩
              ·simp[intOf]<;>omega
         ·have bX:=dG.out.any (by rw[J5.out];omega);have HE:Hid (RES=(Np.mb ap.data.toList t.toNat n.data.toList NX CV,0)):=jq (by rw[d8.out,bX];rfl);have nY:=jq (aG.out.trans (cT.out.mono aG.out.size));obtain⟨a4,q04,q14,l4⟩:=HQ.out ws cT.out;clear bX dG d8;go_wp2_with fail;refine (Iv 235 W7 #[.pointer (some ⟨w.heap.size,0,none⟩),.pointer (some ⟨w.heap.size+1,0,none⟩)] (λs=>Np.eJ ap.data.toList s n.data.toList) _ SP ws (Kv.out.later eR jG fm.out) Kw.out.2 (λW x e hx hb he=>WJ w.heap.size (w.heap.size+1) ap n ed hn x (Kx.out x hx) e W he (HQ.out W (cT.out.trans (hb.mono cT.out.size))).1 (HQ.out W (cT.out.trans (hb.mono cT.out.size))).2.1)).mono ?_;rintro e w9 ⟨v9,rfl,Dg,bM⟩;rw[dJ.out] at Dg;have TU:=jq Dg;have cZ:=jq (cT.out.trans (bM.mono cT.out.size));have Tc:=jq (TS.out.later eR jG (fm.out.trans (bM.mono fm.out.size)));obtain⟨A9,N9,C9,rfl,_,_,_⟩:=aM Dg;obtain⟨a5,q05,q15,l5⟩:=HQ.out w9 cZ.out;clear Dg bM a4 q04 q14 l4;go_wp2_with fail;refine (WM ap n ed eC.out t kg Dk _ _ NX CV J6.out RO.out w9 Tc.out TU.out).mono ?_;rintro e w10 ⟨rfl,gF⟩;have qu:=jq (aG.out.trans ((cZ.out.trans (gF.mono cZ.out.size)).mono aG.out.size));clear gF a5 q05 q15 l5;go_wp2_with fail;go_ret2;exact⟨by rw[HE.out];rfl,qu.out⟩
end
end Go.Proofs.YtadhigmjilijcaaGreatDoor
