/- Parts of the proof. No condition. -/
import Derived.Deep.Slices
import Derived.Test.YtfnopgdcaanaiaaGreatDoorM02
import Derived.Test.YtfnopgdcaanaiaaGreatDoorM03
import Derived.Test.YtfnopgdcaanaiaaGreatDoorM04
import Derived.Test.YtfnopgdcaanaiaaGreatDoorM05
set_option linter.all false
set_option maxRecDepth 100000
set_option maxHeartbeats 8000000
namespace Go.Proofs.YtfnopgdcaanaiaaGreatDoor
open Go.Proofs.Tryz
section
open Go.RowKit
def go(w:World):Prop:=Lib.TabIs prog w "internal/strconv.uint64pow10" .u64 Lib.pow10Tab
theorem I2:prog.globalNamed "internal/strconv.uint64pow10" = some 1:=by kernel_rfl
theorem go.lt{w:World}(h:go w):1<w.heap.size:=by
 unfold go Lib.TabIs World.var? at h;rw[I2] at h;simp only[Option.bind_some] at h
 cases hh:w.heap[1]? with
 | none=>rw[hh] at h;cases h
 | some o=>exact (eQ.1 hh).1
theorem go.keepAt{w w':World}{n:Nat}(h:go w)(hb:Below n w w')(hn:1<n):go w':=by
 unfold go Lib.TabIs World.var? at h |-;rw[I2] at h |-;simp only[Option.bind_some] at h |-;rw[hb.block _ hn];exact h
theorem go.keep{w w':World}(h:go w)(hb:Below w.heap.size w w'):go w':=h.keepAt hb h.lt
theorem Oq:∀ n:Nat,Lib.decDigits n=Np.nI n:=by
 intro n
 induction n using Nat.strongRecOn with
 | ind n ih=>
  rw[Lib.decDigits,Np.nI];split
  ·rfl
  ·rw[ih (n / 10) (by omega)]
theorem Q4(n:Int)(h0:0<=n)(h1:n<=9223372036854775807)(w:World)(hP:go w) :
 Calls prog 132 #[.int .i64 n] w (a0X w.heap.size w (aA (Np.bl n))):=
 (Tryz.strconv_Itoa n (by omega) (by omega) w hP).mono λe w' ⟨he,k,os,hw⟩=>by
   refine⟨?_,?_⟩
   ·rw[he,Lib.itoa,Qc (by omega),Oq];rfl
   ·rw[hw];exact Lib.below_grow _ w (bQ _) k os
theorem ON(n:Int)(h0:0<=n)(h1:n<18446744073709551616)(w:World)(hP:go w) :
 Calls prog 133 #[.int .u64 n,.int .i64 10] w (a0X w.heap.size w (aA (Np.bl n))):=by
 obtain⟨u,rfl⟩:∃ u:Nat,n=u:=⟨n.toNat,by omega⟩;refine (Xz u (by omega) w hP).mono λe w' ⟨he,k,os,hw⟩=>⟨?_,?_⟩
 ·rw[he,Oq];rfl
 ·rw[hw];exact Lib.below_grow _ w (bQ _) k os
theorem wv{n:Int}(h1:n<18446744073709551616):(Np.bl n).length<=20:=Np.WW 19 n.toNat (by omega)
theorem WY(a b:List (List UInt8)):Np.cJ (a++b)=Np.cJ a++Np.cJ b:=by simp[Np.cJ]
theorem K4:∀ (ns:List Int) (s:List UInt8),s++(ns.flatMap λn=>47::Np.bl n) ++ [47]=Np.cJ (s::ns.map Np.bl)
 | [],s=>by simp[Np.cJ]
 | n::ns,s=>by
   rw[Np.yT,List.map_cons,<-K4 ns (Np.bl n)];simp
theorem RO:∀ (ns:List Int) (s:List UInt8),(∀ n∈ns,n<18446744073709551616)->(s++(ns.flatMap λn=>47::Np.bl n) ++ [47]).length<=s.length+1+21 * ns.length
 | [],s,_=>by simp
 | n::ns,s,h=>by
   have:=RO ns s (λm hm=>h m (mQ _ hm))
   have h2:=wv (h n (by simp));simp at this |-;omega
theorem yP:BldT 198:=⟨by kernel_rfl,by decide⟩
def lD(b:Nat)(r:Option Nat)(w:World)(v:Value)(ns:List Int):Prop:=
 ∃ A c,v = .slice A ns.length c/\ns.length<=c/\∀ i x,ns[i]?=some x->∃ g o,A=some ⟨g,o,none⟩/\g<w.heap.size/\g≠b/\r≠some g/\w.cell? ⟨g,o+i,none⟩=some (.int .i64 x)
theorem lD.step{b:Nat}{r r':Option Nat}{w w':World}{v:Value}{ns:List Int}(h:lD b r w v ns)(hs:BS b r w r' w'):lD b r' w' v ns:=by
 obtain⟨A,c,h1,h2,h4⟩:=h;refine⟨A,c,h1,h2,λi x hx=>?_⟩;obtain⟨g,o,h5,h6,h7,h8,h9⟩:=h4 i x hx;exact⟨g,o,h5,lQ h6 hs.size,h7,hs.free h6 h8,(hs.cell h6 h7 h8 _).trans h9⟩
theorem lD.nil(b:Nat)(r:Option Nat)(w:World):lD b r w (.slice none 0 0) []:=⟨none,0,rfl,bQ _,λi x h=>by simp at h⟩
def rI(ns:List Int):List UInt8:=ns.flatMap λn=>47::Np.bl n
theorem apX{ns:List Int}{k:Nat}{x:Int}(hx:ns[k]?=some x):rI (ns.take (k+1))=rI (ns.take k) ++ [47]++Np.bl x:=by
 obtain⟨hl,he⟩:=cQ.1 hx;rw[fQ hl,he];simp[rI]
theorem Ru:∀ (ns:List Int),(∀ n∈ns,n<18446744073709551616)->(rI ns).length<=21 * ns.length
 | [],_=>by simp[rI]
 | n::ns,h=>by
   have:=Ru ns (λm hm=>h m (mQ _ hm))
   have h2:=wv (h n (by simp));simp[rI] at this |-;omega
theorem FF(B b:Nat)(r:Option Nat)(l:List UInt8)(s:ByteArray)(v:Value)(ns:List Int)(w:World)(h:Bld 198 B b r l w)(hv:lD b r w v ns)(hn:∀ n∈ns,0<=n/\n<=9223372036854775807)(hl:l.length<=10000000)(hs:s.size<=100000)(xl:ns.length<=100)(iL:B<=w.heap.size)(hP:go w)(X5:1<B) :
 Calls prog 217 #[.string s,v,.pointer (some ⟨b,0,none⟩)] w (zX 198 B b r (l++Np.cJ (s.data.toList::ns.map Np.bl)) (.tuple #[]) w):=by
 have H:=jq h;have HV:=jq hv;have HP:=jq hP;have HN:=jq hn;have iC:=jq h.row.1;have l3:=jq h.row.2.2;obtain⟨A,c,rfl,hc,-⟩:=hv;obtain⟨m,hm⟩:=acJ ns.length;rw[hm] at xl;have HM:=jq hm;have yA:Hid (∀ k,(rI (ns.take k)).length<=2100):=jq (λk=>by
  have h1:=Ru (ns.take k) (λn hn'=>by have:=HN.out n (List.mem_of_mem_take hn');omega);rw[List.length_take] at h1;have h2:=HM.out;omega)
 have cx:s.data.toList.length=s.size:=bn s;have kj:=jq cx;clear h hn hP cx;rw[hm] at HV |-;clear hm hc;go_enter func217,ntmps217;go_wp2_with fail;refine (LP yP B b r _ s _ H.out (by omega) (by omega) iL).mono ?_;rintro e w1 ⟨rfl,r1,ay,bK⟩;have av:=jq ay;have fF:=jq bK;have uH:=bK.size;clear ay bK;go_wp2_with fail;go_loopw [11] (λi wr=>∃ (k:Nat) (r':Option Nat),k<=m/\i = .int .i64 k/\Hid (Bld 198 B b r' (l++s.data.toList++rI (ns.take k)) wr)/\Hid (BS b r w r' wr)/\Hid (lD b r' wr (.slice A m c) ns)) (λi _=>m - (intOf i).toNat)
 case atStart=>exact⟨0,r1,jQ _,rfl,jq (by simpa [rI] using av.out),fF,jq (HV.out.step fF.out)⟩
 case round=>
  obtain⟨k,r',hk,rfl,HB,HS,HX⟩:=hrel;have an:=HS.out.size;have fY:Hid (Below B w wr):=jq (HS.out.below iC.out (λk hk=>(l3.out k hk).1) iL);by_cases ab:k<m
  ·obtain⟨x,aa⟩:∃ x,ns[k]?=some x:=⟨_,aQ (by rw[HM.out];exact ab)⟩;obtain⟨A',c',hA,_,bU⟩:=HX.out;simp only[Value.slice.injEq] at hA;obtain⟨rfl,-,rfl⟩:=hA;obtain⟨g,o,rfl,hg,dL,Cb,hcell⟩:=bU k _ aa;have HJ:=jq (apX aa);have iR:=HN.out x (gQ aa);have Iw:=jq iR;have Zr:=yA.out k;have baZ:=yA.out (k+1);clear bU aa iR;go_wp2_with fail;refine (LO yP B b r' _ 47 47 rfl _ HB.out (by simp;omega) (by omega)).mono ?_;rintro e w2 ⟨rfl,r2,ac,dW⟩;have ai:=jq ac;have ki:=jq dW;have li:=dW.size;clear ac dW;go_wp2_with fail;refine (Q4 x Iw.out.1 Iw.out.2 w2 (HP.out.keepAt (fY.out.trans (ki.out.below iC.out (λk hk=>(HB.out.row.2.2 k hk).1) (by omega))) X5)).mono ?_;rintro e w3 ⟨rfl,aq⟩;have ar:=jq (ai.out.keep aq);have AQ:=jq (ki.out.after aq);have lN:=aq.size;clear aq;go_wp2_with fail;refine (LP yP B b r2 _ ⟨(Np.bl x).toArray⟩ _ ar.out (by simp;omega) (by rw[<-bn];have:=wv (n:=x) (by have:=Iw.out;omega);simp;omega) (by omega)).mono ?_;rintro e w4 ⟨rfl,r4,aC,Kf⟩;have aU:=jq aC;have M5:=jq (AQ.out.trans Kf);clear aC Kf;go_wp2_with fail;go_roundw
   case rel=>exact⟨k+1,r4,by omega,by go_num,jq (by have:=aU.out;rw[HJ.out];simpa using this),jq (HS.out.trans M5.out),jq (HX.out.step M5.out)⟩
   case measure=>simp[intOf] <;> omega
  ·have Zr:=yA.out k;have f9:Hid (ns.take k=ns):=jq (kQ (by rw[HM.out];omega));go_wp2_with fail;refine (LO yP B b r' _ 47 47 rfl _ HB.out (by simp;omega) (by omega)).mono ?_;rintro e w2 ⟨rfl,r2,ac,dW⟩;have ai:=jq ac;have ki:=jq (HS.out.trans dW);clear ac dW;go_wp2_with fail;go_end0;refine⟨rfl,r2,?_,ki.out⟩
   have:=ai.out
   rw[f9.out] at this;rw[<-K4];simpa [rI] using this
end
section
open Go.ChangeShapes Go.WideShapes Go.ChangeAt Go.RowKit Go.Deep
def ia{α:Type}(P:Program)(t:TypeId)(sz:Nat)(R:a1Z α):Prop:=
 ∀ (H:Type) (enc:TypeId×Value->H) (W:World) (base:Nat) (spare:Nat->Bool) (held:Bool) (fuel:Nat) (cs:List Value) (d:DataW H) (ps:List MemPlace),
   DataW.trod enc P W base spare held fuel t cs=some (d,ps)->(∀ n∈d.weights P t,n<=reachBytes)->cs.length=sz/\∃ x,R W W.heap.size cs x
def RNum(k:IntKind)(_:World)(_:Nat)(e:List Value)(x:Int):Prop:=e = [.int k x]/\(Lit.int k x).wf=true
theorem jY{P:Program}{t:TypeId}{k:IntKind}(ht:P.underlying t=some (.int k)):ia P t 1 (RNum k):=by
 intro H enc W base spare held fuel cs d ps h _;obtain⟨n,rfl,_,hwf⟩:=DataW.trod_int ht h;exact⟨rfl,n,rfl,hwf⟩
def RStr(_:World)(_:Nat)(e:List Value)(x:List UInt8):Prop:=∃ s:ByteArray,s.data.toList=x/\s.size<=140737488355328/\e = [.string s]
theorem xZ{P:Program}{t:TypeId}(ht:P.underlying t=some .string):ia P t 1 RStr:=by
 intro H enc W base spare held fuel cs d ps h hw;obtain⟨s,rfl,hx,_⟩:=DataW.trod_string ht h;simp only[Prod.mk.injEq] at hx;rw[hx.1] at hw
 have:=hw s.data.toList.length (by simp[DataW.weights])
 have h2:=reachBytes_lt;exact⟨rfl,s.data.toList,s,rfl,by rw[bn] at this;omega,rfl⟩
def RSl{α:Type}(R:a1Z α)(sz:Nat)(W:World)(B:Nat)(e:List Value)(xs:List α):Prop:=∃ v,e = [v]/\SlR R sz W B v xs
theorem RSl.more{α:Type}{R:a1Z α}{sz:Nat}(h:eL R):eL (RSl R sz):=λ_ _ _ _ _ ⟨v,hv,hs⟩ hb=>⟨v,hv,hs.more h hb⟩
theorem SX{H:Type}{P:Program}{e:TypeId} : ∀ {ds:List (DataW H)} {d:DataW H},d∈ds->∀ n∈d.weights P e,n∈DataW.weightsAll P e ds
 | d0::ds,d,hd,n,hn=>by
   simp only[DataW.weightsAll,List.mem_append];rcases List.mem_cons.1 hd with rfl | hd
   ·exact .inl hn
   ·exact .inr (SX hd n hn)
theorem NF(b o n:Nat):(⟨b,o,none⟩:Addr).add n=⟨b,o+n,none⟩:=by
 unfold Addr.add;split
 ·rename_i h;subst h;rfl
 ·rfl
theorem Vw{W:World}{a:Addr}{v:Value}(h:W.cell? a=some v):a=⟨a.block,a.off,none⟩:=by
 have:=World.cell?_spot h
 cases a;simp_all
theorem xY{α:Type}{P:Program}{t e:TypeId}{sz:Nat}{R:a1Z α}(ht:P.underlying t=some (.slice e))(hC:P.cellsOf e=sz)(an:0<sz)(hb:0<P.bytesOf e)(hR:ia P e sz R):ia P t 1 (RSl R sz):=by
 intro H enc W base spare held fuel cs d ps h hw;rcases open_slice ht h with ⟨rfl,_⟩ | ⟨a,len,cap,m,n,D,Pl,rfl,mE,hl,hm,mf,hx,hi⟩
 ·exact⟨rfl,[],_,rfl,none,0,rfl,by simp,by simp,λi x hx=>by simp at hx⟩
 ·simp only[Prod.mk.injEq] at hx;rw[hx.1] at hw;have uq:len<=m:=by rw[mf];split <;> omega
  have hlen:len<=140737488355328:=by
   have:=hw ((((List.range len).map D).length+((List.range (m - len)).map λj=>D (len+j)).length) * P.bytesOf e) (by simp[DataW.weights,ht])
   simp only[List.length_map,List.length_range] at this;have h2:=reachBytes_lt;have h3:len+(m - len)<=(len+(m - len)) * P.bytesOf e:=Nat.le_mul_of_pos_right _ hb;omega
  have bU:∀ i,i<len->∃ x cs',W.cells? base (a.add (i * sz)) sz=some cs'/\cs'.length=sz/\R W W.heap.size cs' x:=λi eN=>by
   obtain⟨cs',hc,Z3⟩:=hi i (by omega);rw[hC] at hc;obtain⟨h1,x,h2⟩:=hR H enc W base spare held n cs' (D i) (Pl i) Z3 (λk hk=>hw k (by
    simp only[DataW.weights,ht];exact mQ _ (List.mem_append_left _ (SX (List.mem_map.2 ⟨i,List.mem_range.2 eN,rfl⟩) k hk))))
   exact⟨x,cs',hc,h1,h2⟩
  have bX:∀ k,k<=len->∃ xs:List α,xs.length=k/\∀ i x,xs[i]?=some x->∃ cs',W.cells? base (a.add (i * sz)) sz=some cs'/\cs'.length=sz/\R W W.heap.size cs' x:=by
   intro k
   induction k with
   | zero=>exact λ_=>⟨[],rfl,λi x hx=>by simp at hx⟩
   | succ k ih=>
    intro hk;obtain⟨xs,uM,nZ⟩:=ih (by omega);obtain⟨x,hx⟩:=bU k (by omega);refine⟨xs ++ [x],by simp[uM],λi y hy=>?_⟩;rcases Nat.lt_or_ge i xs.length with ab | nP
    ·rw[List.getElem?_append_left ab] at hy;exact nZ i y hy
    ·rw[oQ nP] at hy
     have:i - xs.length=0:=by
      have:=(cQ.1 hy).1
      simp at this;omega
     rw[this] at hy;simp at hy;subst hy;rw[show i=k by omega];exact hx
  obtain⟨xs,uM,nZ⟩:=bX len (bQ _);refine⟨rfl,xs,_,rfl,some a,cap,by rw[uM],by omega,by omega,λi x hx=>?_⟩;have h0:0<len:=by have:=(cQ.1 hx).1;omega
  obtain⟨c0,JB,a3X,_⟩:=nZ 0 _ (aQ (by omega));obtain⟨_,_,Yy⟩:=World.cells?_some JB;have ha:a=⟨a.block,a.off,none⟩:=by
   have h1:=Yy 0 an;rw[show (a.add (0 * sz)).add 0=a by simp[Addr.add]] at h1;rw[aQ (by omega)] at h1;exact Vw h1
  obtain⟨cs',hc,l9,Ew⟩:=nZ i x hx;obtain⟨_,_,Yx⟩:=World.cells?_some hc;have hce:eh W a.block (a.off+i * sz) cs':=λj u hj=>by
   have nT:=(cQ.1 hj).1;have h1:=Yx j (by omega);rw[hj,ha] at h1;have h2:((⟨a.block,a.off,none⟩:Addr).add (i * sz)).add j=⟨a.block,a.off+i * sz+j,none⟩:=by
    rw[NF,NF]
   rw[h2] at h1;exact h1
  refine⟨a.block,a.off,cs',by rw[<-ha],?_,l9,hce,Ew⟩
  have:=World.block_lt_of_cell? W _ (hce 0 _ (aQ (by omega)))
  exact this
theorem qx{P:Program}{t:TypeId}{fs:Array Field}(hs:P.underlying t=some (.struct fs)){H:Type}{enc:TypeId×Value->H}{W:World}{base:Nat}{spare:Nat->Bool}{held:Bool}{fuel:Nat}{cs:List Value}{d:DataW H}{ps:List MemPlace}
 (h:DataW.trod enc P W base spare held fuel t cs=some (d,ps)) (hw:∀ n∈d.weights P t,n<=reachBytes) :
 cs.length=P.cellsOf t/\∀ (j:Nat) (f:Field),fs[j]?=some f->∃ n d' ps',DataW.trod enc P W base spare held n f.type ((cs.drop f.offset).take (P.cellsOf f.type))=some (d',ps')/\∀ k∈d'.weights P f.type,k<=reachBytes:=by
 obtain⟨ys,n,_,hx,hl,hyl,hf⟩:=DataW.trod_struct hs h;simp only[Prod.mk.injEq] at hx;refine⟨hl,λj f hj=>?_⟩;have nT:j<fs.size:=(eQ.1 hj).1;have h1:=hf j f hj;rw[aQ (by omega)] at h1;refine⟨n,_,_,h1,λk hk=>hw k ?_⟩;rw[hx.1];simp only[DataW.weights,hs];refine DataW.weights_mem_each (j:=j) (t:=f.type) (d:=(ys[j]'(by omega)).1) ?_ ?_ k hk
 ·simp[hj]
 ·simp[aQ (show j<ys.length by omega)]
theorem NY{H:Type}{enc:TypeId×Value->H}{P:Program}(hl:laidOutB P=true){W W':World}(hb:Below W.heap.size W W') :
 ∀ {ts:List TypeId} {vs:List Value} {ds:List (DataW H)} {ps:List MemPlace},(∀ t∈ts,P.readableRec t=true/\t<P.types.size)->DataW.TrodAll enc P W 0 (λ_=>true) true ts vs ds ps->(∀ x∈ps,x.block<W.heap.size)->
   DataW.TrodAll enc P W' 0 (λb=>decide (b<W.heap.size)) true ts vs ds ps
 | [],[],[],_,_,h,_=>h
 | t::ts,v::vs,d::ds,ps,hr,h,ab=>by
   obtain⟨p,q,h1,h2,rfl⟩:=h;have ht:=hr t (by simp);exact⟨p,q,Below.trod hl ht.1 ht.2 h1 hb (λx hx=>ab x (by simp[hx])),NY hl hb (λt ht=>hr t (by simp[ht])) h2 (λx hx=>ab x (by simp[hx])),rfl⟩
 | [],_::_,_,_,_,h,_=>h.elim
 | [],[],_::_,_,_,h,_=>h.elim
 | _::_,[],_,_,_,h,_=>h.elim
 | _::_,_::_,[],_,_,h,_=>h.elim
theorem ajY{H:Type}{enc:TypeId×Value->H}{P:Program}{f:Func}{s:ChangeSpec}{W W':World}{args:Array Value}{v:Value}{ds gs:List (DataW H)}{before:List MemPlace}
 (hl:laidOutB P=true) (hr:∀ t∈f.params.toList,P.readableRec t=true/\t<P.types.size) (dD:s.vars = [])
 (hW:DataW.Whole enc P f.params.toList s.vars false W args.toList ds gs before) (hb:Below W.heap.size W W')
 (s5:∀ (b:Nat) (sp:Nat->Bool) (hd:Bool),DataW.TrodAll enc P W' b sp hd f.resultTypes.toList (v.resultList f.resultTypes.size) (s.fn H (ds++gs)).results [])
 (Jq:(s.fn H (ds++gs)).args=ds) (Z7:(s.fn H (ds++gs)).vars = []) :
 s.post enc P f false true false false W args v W':=by
 have ab:=hW.lt;have hW':=hW;obtain⟨p,q,hA,hV,rfl,_,_⟩:=hW;rw[dD] at hV;have hq:q = []:=by
  cases gs with
  | nil=>exact hV
  | cons _ _=>exact hV.elim
 subst hq;refine⟨ds,gs,_,[],p,[],hW',s5 _ _ _,?_,?_,World.keptBut_mono (λx hx=>⟨hx,.inr (by simpa using hx)⟩) (hb.frame (·∈p ++ [])),λh=>by cases h⟩
 ·rw[Jq];exact NY hl hb hr hA (λx hx=>ab x (by simp[hx]))
 ·rw[Z7,dD];rfl
theorem wn:prog.cellsOf 9=1:=by kernel_rfl
theorem lo:laidOutB prog=true:=by kernel_rfl
end
end Go.Proofs.YtfnopgdcaanaiaaGreatDoor
