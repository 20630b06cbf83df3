/- Parts of the proof. No condition. -/
import Derived.Carry
import Derived.Deep.Slices
import Derived.SizedLaws
import Derived.WideShapes
import Derived.Test.YtfnopgdcaanaiaaGreatDoorK13
set_option linter.all false
set_option maxRecDepth 100000
set_option maxHeartbeats 8000000
namespace Go.Proofs.YtfnopgdcaanaiaaGreatDoor
open Go.Proofs.Tryz
section
open Go.RowKit
theorem MY:∀ args w,(callFunc 128 args).run prog w = .ok (.enter 128 args) w:=enters_of func128 (by kernel_rfl) rfl
theorem VW:∀ args w,(callFunc 131 args).run prog w = .ok (.enter 131 args) w:=enters_of func131 (by kernel_rfl) rfl
theorem aIJ(B b:Nat)(r:Option Nat)(l:List UInt8)(s:ByteArray)(w:World)(h:Bld 198 B b r l w)(hl:l.length<=10000000)(hs:s.size<=100000)(gP:B<=w.heap.size) :
 Calls prog 128 #[.string s,.pointer (some ⟨b,0,none⟩)] w (zq 198 B b r (l++Np.bZ [s.data.toList]) (.tuple #[]) w):=by
 have H:=jq h;have da:s.data.toList.length=s.size:=aZ s;have ji:=jq da;clear h da;go_enter func128,ntmps128;go_wp2_with fail;refine (Kp xY B b r _ s _ H.out (by omega) (by omega) gP).mono ?_;rintro e w1 ⟨rfl,r1,aw,bl⟩;have ay:=jq aw;have eZ:=jq bl;have qf:=bl.size;clear aw bl;go_wp2_with fail;refine (Ko xY B b r1 _ 47 47 rfl _ ay.out (by have:=ji.out;simp;omega) (by omega)).mono ?_;rintro e w2 ⟨rfl,r2,ac,gG⟩;have ak:=jq ac;have jh:=jq (eZ.out.trans gG);clear ac gG;go_wp2_with fail;go_end0;exact⟨rfl,r2,by have:=ak.out;simpa [Np.bZ] using this,jh.out⟩
def TxK(Y Z E n:Nat)(l:List UInt8)(w:World):Prop:=l.length<=n/\Z<w.heap.size/\Y<Z/\(E<w.heap.size/\E≠Y)/\w.cell? ⟨Z,0,none⟩=some (.func (.func 128) #[] #[.pointer (some ⟨Y,0,none⟩)])/\∃ r,Bld 198 Y Y r l w/\r≠some Z/\r≠some E
theorem TxK.word{Y Z E n:Nat}{l:List UInt8}{w:World}(h:TxK Y Z E n l w):w.cell? ⟨Z,0,none⟩=some (.func (.func 128) #[] #[.pointer (some ⟨Y,0,none⟩)]):=h.2.2.2.2.1
theorem TxK.keep{Y Z E n:Nat}{l:List UInt8}{w w':World}(h:TxK Y Z E n l w)(hb:Below w.heap.size w w'):TxK Y Z E n l w':=by
 obtain⟨h1,h2,h3,h7,h4,r,h5,h6⟩:=h;exact⟨h1,lQ h2 hb.size,h3,⟨lQ h7.1 hb.size,h7.2⟩,(hb.cell (p:=⟨Z,0,none⟩) h2).trans h4,r,h5.keep hb,h6⟩
theorem TxK.more{Y Z E n m:Nat}{l:List UInt8}{w:World}(h:TxK Y Z E n l w)(hn:n<=m):TxK Y Z E m l w:=⟨yQ h.1 hn,h.2⟩
theorem TxK.fresh{Y Z E n:Nat}{l:List UInt8}{w w':World}(h:TxK Y Z E n l w)(hb:Below w.heap.size w w')(hz:w.heap.size<w'.heap.size):TxK Y Z w.heap.size n l w':=by
 obtain⟨h1,h2,h3,h7,h4,r,h5,h6,_⟩:=h;exact⟨h1,lQ h2 hb.size,h3,⟨hz,by omega⟩,(hb.cell (p:=⟨Z,0,none⟩) h2).trans h4,r,h5.keep hb,h6,λe=>by have:=(h5.row.2.2 _ e).2;omega⟩
theorem TxK.back{Y Z E n:Nat}{l:List UInt8}{w:World}(h:TxK Y Z E n l w):TxK Y Z Z n l w:=by
 obtain⟨h1,h2,h3,h7,h4,r,h5,h6,_⟩:=h;exact⟨h1,h2,h3,⟨h2,by omega⟩,h4,r,h5,h6,h6⟩
theorem TxK.step{Y Z E n m:Nat}{l l':List UInt8}{w w':World}(h:TxK Y Z E n l w)(hl:l'.length<=m){r:Option Nat}(hr:Bld 198 Y Y r l w)(hz:r≠some Z)(he:r≠some E){r':Option Nat}(hb:Bld 198 Y Y r' l' w')(hs:BS Y r w r' w'):TxK Y Z E m l' w'/\w'.heap[E]?=w.heap[E]?/\Below Y w w':=by
 obtain⟨h1,h2,h3,h7,h4,_⟩:=h;exact⟨⟨hl,lQ h2 hs.size,h3,⟨lQ h7.1 hs.size,h7.2⟩,(hs.cell h2 (by omega) hz 0).trans h4,r',hb,hs.free h2 hz,hs.free h7.1 he⟩,hs.keep E h7.1 h7.2 he,hs.below (bQ _) (λk hk=>(hr.row.2.2 k hk).1) (by have:=hr.row.2.1;omega)⟩
theorem CE(Y Z E n:Nat)(l:List UInt8)(s:ByteArray)(w:World)(h:TxK Y Z E n l w)(hn:n<=10000000)(hs:s.data.toList.length<=1000) :
 Calls prog 128 #[.string s,.pointer (some ⟨Y,0,none⟩)] w λe w'=>e = .returned (.tuple #[])/\TxK Y Z E (n+1001) (l++Np.bZ [s.data.toList]) w'/\w'.heap[E]?=w.heap[E]?/\Below Y w w':=by
 have h0:=h;obtain⟨h1,h2,h3,h7,h4,r,h5,h6,h8⟩:=h;refine (aIJ Y Y r l s w h5 (by omega) (by rw[<-aZ];omega) (by omega)).mono λe w' ⟨he,r',hb',hs'⟩=>⟨he,h0.step (by rw[List.length_append,Np.x7,List.length_append,List.length_cons];simp only[Np.bZ,List.flatMap_nil,List.length_nil];omega) h5 h6 h8 hb' hs'⟩
theorem so(Y Z E n:Nat)(l:List UInt8)(k:Int)(h0:0<=k)(h1:k<=9223372036854775807)(w:World)(h:TxK Y Z E n l w)(hn:n<=10000000)(hP:fU w) :
 Calls prog 131 #[.int .i64 k,.pointer (some ⟨Z,0,none⟩)] w λe w'=>e = .returned (.tuple #[])/\TxK Y Z E (n+25) (l++Np.bZ [Np.aX k]) w'/\w'.heap[E]?=w.heap[E]?/\Below Y w w':=by
 have H:=jq h;have hz:Z<w.heap.size:=h.2.1;have hY:Y<w.heap.size:=Nat.lt_trans h.2.2.1 hz;have hE:Hid (E<w.heap.size):=jq h.2.2.2.1.1;have hc:w.cell? ⟨Z,0,none⟩=some (.func (.func 128) #[] #[.pointer (some ⟨Y,0,none⟩)]):=h.word;have IE:∀ g:bK w,g.w.cell? ⟨Z,0,none⟩=some (.func (.func 128) #[] #[.pointer (some ⟨Y,0,none⟩)]):=λg=>(g.cell ⟨Z,0,none⟩ hz).trans hc;have HI:Hid (∀ g:bK w,Calls prog 132 #[.int .i64 k] g.w λe w'=>e = .returned (aD (Np.aX k))/\Below g.w.heap.size g.w w'):=jq (λg=>PB k h0 h1 g.w (hP.keep g.below));have HD:Hid ((Np.aX k).length<=20):=jq (vg (by omega));have eg:=MY;clear h hP;go_enter func131,ntmps131;go_wp2_with fail;refine RU 3 (by kernel_rfl) (by kernel_rfl) ?_;simp only[List.take_succ_cons,List.take_zero,List.drop_succ_cons,List.drop_zero]
 repeat (go_big_quiet_step (fail))
 go_big_quiet_step ((go_at_call 132;exact Calls.grow_of (HI.out _)))
 repeat (go_big_quiet_step (fail))
 refine wpQuiet_nil ?_;rintro _ ⟨g,rfl⟩;have HG:=jq (H.out.keep g.below);have Gf:=jq g.below;obtain⟨w1,aj⟩:∃ w1,g.w=w1:=⟨_,rfl⟩;rw[aj] at HG Gf |-;clear IE aj hc;go_wp2_with fail;refine (CE Y Z E n l ⟨(Np.aX k).toArray⟩ w1 HG.out (by omega) (by have:=HD.out;simp;omega)).mono ?_;rintro e w2 ⟨rfl,ht,hx,hb⟩;have HT:Hid (TxK Y Z E (n+25) (l++Np.bZ [Np.aX k]) w2):=jq ⟨by have:=H.out.1;have:=HD.out;simp[Np.bZ];omega,by simpa using ht.2⟩;have HB:=jq ((Gf.out.mono (by omega)).trans hb);have HX:=jq (hx.trans (Gf.out.block E hE.out));clear ht hb hx;go_wp2_with fail;go_end0;exact⟨rfl,HT.out,HX.out,HB.out⟩
theorem UB{f:List (List UInt8)}{d:List Np.Datum}{k:Nat}{x:Np.Datum}(hx:d[k]?=some x):gZ f (d.take k)++Np.bZ [x.text]++Np.bZ [Np.aX x.n]++Np.bZ [Np.aX x.m]=gZ f (d.take (k+1)):=by
 rw[Md hx];simp[Np.bZ]
theorem UC{f:List (List UInt8)}{d:List Np.Sig}{k:Nat}{x:Np.Sig}(hx:d[k]?=some x):g8 f (d.take k)++Np.bZ [x.zone]++Np.bZ [Np.aX x.key]++Np.bZ [Np.aX x.alg]++Np.bZ [Np.aX x.frm]++Np.bZ [Np.aX x.til]++Np.bZ [Np.aX x.sum]=g8 f (d.take (k+1)):=by
 rw[Me hx];simp[Np.bZ]
theorem YY(s:ByteArray)(ty life:Int)(dv sv:Value)(d:List Np.Datum)(g:List Np.Sig)(w:World)(hP:fU w)(hK:KeyS ⟨⟨s.data.toList,ty,life,d⟩,g⟩)(hd:SlR bF 3 w w.heap.size dv d)(hg:SlR dm 6 w w.heap.size sv g) :
 Calls prog 59 #[.agg #[.string s,.int .i64 ty,.int .i64 life,dv,sv]] w λe w'=>e = .returned (aD (Np.dR ⟨⟨s.data.toList,ty,life,d⟩,g⟩))/\Below w.heap.size w w':=by
 have HK:=jq hK;have HD:=jq hd;have HG:=jq hg;have HP:=jq hP;have DX:=hP.lt;have oF:Hid (∀ f,f = [s.data.toList,Np.aX ty,Np.aX life,Np.aX d.length]->g8 (f++d.flatMap Np.pN) g=Np.dR ⟨⟨s.data.toList,ty,life,d⟩,g⟩):=jq (λf hf=>by subst hf;unfold g8 Np.dR Np.x8;rw[List.append_assoc]);have sI:Hid ([]++Np.bZ [s.data.toList]++Np.bZ [Np.aX ty]++Np.bZ [Np.aX life]++Np.bZ [Np.aX d.length]=gZ [s.data.toList,Np.aX ty,Np.aX life,Np.aX d.length] []):=jq (by simp[gZ,Np.bZ]);have tm:d.length<=100:=hK.few;have Bx:g.length<=100:=hK.fewS;obtain⟨A1,c1,rfl,_,_⟩:=al hd;obtain⟨A2,c2,rfl,_,_⟩:=al hg;obtain⟨n1,bp⟩:∃ n,d.length=n:=⟨_,rfl⟩;obtain⟨n2,bJ⟩:∃ n,g.length=n:=⟨_,rfl⟩;rw[bp] at HD oF sI tm |-;rw[bJ] at HG Bx |-;have gW:=jq bp;have nA:=jq bJ;clear bp bJ hd hg hK hP;obtain⟨f0,kH⟩:∃ f0,[s.data.toList,Np.aX ty,Np.aX life,Np.aX n1]=f0:=⟨_,rfl⟩;have my:=jq (oF.out f0 kH.symm);rw[kH] at sI;clear kH oF;obtain⟨X,hX⟩:∃ X,w.heap.size=X:=⟨_,rfl⟩;obtain⟨Y,hY⟩:∃ Y,X+1=Y:=⟨_,rfl⟩;obtain⟨Z,hZ⟩:∃ Z,Y+1=Z:=⟨_,rfl⟩;obtain⟨W0,cS⟩:∃ W0,w.alloc (.cells #[.string s,.int .i64 ty,.int .i64 life,.slice A1 n1 c1,.slice A2 n2 c2] 42)=W0:=⟨_,rfl⟩;have dZ:W0.heap.size=Y:=by rw[<-cS,<-hY,<-hX];simp
 obtain⟨W1,an⟩:∃ W1,W0.alloc (.cells #[.pointer none,.slice none 0 0] 198)=W1:=⟨_,rfl⟩;have cC:Below X w W0:=by rw[<-cS];exact (vQ _ _).alloc (Nat.le_of_eq hX.symm) _
 have aw:Below Y W0 W1:=by rw[<-an];exact (vQ _ _).alloc (Nat.le_of_eq dZ.symm) _
 have bh:W1.heap.size=Z:=by rw[<-an,<-hZ,<-dZ];simp
 have NM:Bld 198 Y Y none [] W1:=by rw[<-an,<-dZ];exact Bld.fresh _ _
 obtain⟨W2,td⟩:∃ W2,W1.alloc (.cells #[.func (.func 128) #[] #[.pointer (some ⟨Y,0,none⟩)]] 204)=W2:=⟨_,rfl⟩;have ac:Below Z W1 W2:=by rw[<-td];exact (vQ _ _).alloc (Nat.le_of_eq bh.symm) _
 have aM:Z<W2.heap.size:=by rw[<-td,<-bh];simp
 have zf:W2.cell? ⟨Z,0,none⟩=some (.func (.func 128) #[] #[.pointer (some ⟨Y,0,none⟩)]):=by rw[<-td,<-bh];simp[go_sem]
 have gX:Hid (TxK Y Z Z 0 [] W2):=jq ⟨by simp,aM,by omega,⟨aM,by omega⟩,zf,none,NM.keep (ac.mono (by omega)),by simp,by simp⟩;have tg:Below Y W0 W2:=aw.trans (ac.mono (by omega));have k0:W2.cell? ⟨X,0,none⟩=some (.string s):=(cl tg (by omega)).trans (by rw[<-cS,<-hX];simp[go_sem]);have k1:W2.cell? ⟨X,1,none⟩=some (.int .i64 ty):=(cl tg (by omega)).trans (by rw[<-cS,<-hX];simp[go_sem]);have k2:W2.cell? ⟨X,2,none⟩=some (.int .i64 life):=(cl tg (by omega)).trans (by rw[<-cS,<-hX];simp[go_sem]);have k3:W2.cell? ⟨X,3,none⟩=some (.slice A1 n1 c1):=(cl tg (by omega)).trans (by rw[<-cS,<-hX];simp[go_sem]);have k4:W2.cell? ⟨X,4,none⟩=some (.slice A2 n2 c2):=(cl tg (by omega)).trans (by rw[<-cS,<-hX];simp[go_sem]);have oH:Hid (fU W2):=jq (HP.out.keepAt (cC.trans (tg.mono (by omega))) (by omega));have ak:Hid (Below X w W2):=jq (cC.trans (tg.mono (by omega)));have aS:Hid (s.data.toList.length<=1000):=jq HK.out.name;have dB:Hid (0<=ty/\ty<=1000000000):=jq HK.out.type;have C1:Hid (0<=life/\life<=1000000000):=jq HK.out.life;have eg1:=MY;have eg2:=VW;have me:1<Y:=by omega
 have hYX:X<Y:=by omega
 have hZY:Y<Z:=by omega
 clear cC aw ac tg NM;rw[hX] at HD HG |-;go_enter func59,ntmps59;go_wp2_with fail;clear cS an td hX dZ bh hY hZ;refine (CE Y Z Z 0 [] s W2 gX.out (by omega) aS.out).mono ?_;rintro e W3 ⟨rfl,ht,hx,hb⟩;have oL:=jq ht;have az:=jq (ak.out.trans (hb.mono (by omega)));have sO:=jq (oH.out.keepAt hb me);replace zf:=ht.word;have dP:Z<W3.heap.size:=ht.2.1;replace k1:=(cl hb (by omega)).trans k1;replace k2:=(cl hb (by omega)).trans k2;replace k3:=(cl hb (by omega)).trans k3;replace k4:=(cl hb (by omega)).trans k4;clear ht hx hb k0;go_wp2_with fail;refine (so Y Z Z _ _ ty dB.out.1 (by have:=dB.out.2;omega) W3 oL.out (by omega) sO.out).mono ?_;rintro e W4 ⟨rfl,ht,hx,hb⟩;have zT:=jq ht;have br:=jq (az.out.trans (hb.mono (by omega)));have mB:=jq (sO.out.keepAt hb me);replace zf:=ht.word;have eC:Z<W4.heap.size:=ht.2.1;replace k2:=(cl hb (by omega)).trans k2;replace k3:=(cl hb (by omega)).trans k3;replace k4:=(cl hb (by omega)).trans k4;clear ht hx hb k1;go_wp2_with fail;refine (so Y Z Z _ _ life C1.out.1 (by have:=C1.out.2;omega) W4 zT.out (by omega) mB.out).mono ?_;rintro e W5 ⟨rfl,ht,hx,hb⟩;have zU:=jq ht;have cj:=jq (br.out.trans (hb.mono (by omega)));have mC:=jq (mB.out.keepAt hb me);replace zf:=ht.word;have jB:Z<W5.heap.size:=ht.2.1;replace k3:=(cl hb (by omega)).trans k3;replace k4:=(cl hb (by omega)).trans k4;clear ht hx hb k2;go_wp2_with fail;refine (so Y Z Z _ _ (n1:Int) (by omega) (by omega) W5 zU.out (by omega) mC.out).mono ?_;rintro e W6 ⟨rfl,ht,hx,hb⟩;have G5:=jq ht;have dh:=jq (cj.out.trans (hb.mono (by omega)));have qV:=jq (mC.out.keepAt hb me);replace zf:=ht.word;have gI:Z<W6.heap.size:=ht.2.1;replace k3:=(cl hb (by omega)).trans k3;replace k4:=(cl hb (by omega)).trans k4;clear ht hx hb;go_wp2_with fail;have xO:Hid (TxK Y Z Z 2000 (gZ f0 []) W6):=jq (by have h:=G5.out;rw[sI.out] at h;exact h.more (by omega));clear zf;go_loopw [37] (λi wr=>∃ k:Nat,k<=n1/\i = .int .i64 k/\Z<wr.heap.size/\Hid (TxK Y Z Z (2000 * (k+1)) (gZ f0 (d.take k)) wr)/\Hid (Below Y W6 wr)) (λi _=>n1 - (intOf i).toNat)
 case atStart=>exact⟨0,jQ _,rfl,gI,by simpa using xO,jq (vQ _ _)⟩
 case round=>
  obtain⟨k,hk,rfl,WR,HT,bH⟩:=hrel;have HB:=jq (dh.out.trans (bH.out.mono (by omega)));have Lz:=jq (qV.out.keepAt bH.out me);have q3:=(cl bH.out (by omega)).trans k3;have q4:=(cl bH.out (by omega)).trans k4;clear k3 k4;by_cases aa:k<n1
  ·obtain⟨x,ab⟩:∃ x,d[k]?=some x:=⟨_,aQ (by rw[gW.out];exact aa)⟩;obtain⟨b,o,c',t,hA,bU,_,ht,wu,g0,g1,g2⟩:=DF (HD.out.keep cH HB.out) ab;simp only[Value.slice.injEq] at hA;obtain⟨rfl,-,rfl⟩:=hA;have HX:=jq (HK.out.data x (gQ ab));have GH:=jq (UB (f:=f0) ab);have pJ:=jq ht;have eK:Hid (t.data.toList.length<=1000):=jq (by rw[ht];exact HX.out.1);clear ab ht wu;have bX:(0:Int)<=(k:Int):=by omega
   have bW:(k:Int)<(n1:Int):=by omega
   obtain⟨E,hE⟩:∃ E,wr.heap.size=E:=⟨_,rfl⟩;obtain⟨w2,ae⟩:∃ w2,wr.alloc (.cells #[.string t,.int .i64 x.n,.int .i64 x.m] 128)=w2:=⟨_,rfl⟩;have ac:Below wr.heap.size wr w2:=by rw[<-ae];exact (vQ _ _).alloc (bQ _) _
   have aM:wr.heap.size<w2.heap.size:=by rw[<-ae];simp
   have p0:w2.cell? ⟨E,0,none⟩=some (.string t):=by rw[<-ae,<-hE];simp[go_sem]
   have p1:w2.cell? ⟨E,1,none⟩=some (.int .i64 x.n):=by rw[<-ae,<-hE];simp[go_sem]
   have p2:w2.cell? ⟨E,2,none⟩=some (.int .i64 x.m):=by rw[<-ae,<-hE];simp[go_sem]
   have gX:Hid (TxK Y Z E (2000 * (k+1)) (gZ f0 (d.take k)) w2):=jq (by rw[<-hE];exact HT.out.fresh ac aM);have ak:Hid (Below Y W6 w2):=jq (bH.out.trans (ac.mono (by omega)));have oH:=jq (Lz.out.keep ac);have zf:=gX.out.word;have Jy:Z<w2.heap.size:=by omega
   clear ac aM;go_wp2_with fail;clear ae q3 q4 hE;refine (CE Y Z E _ _ t w2 gX.out (by omega) eK.out).mono ?_;rintro e w3 ⟨rfl,ht,hx,hb⟩;have oL:=jq ht;have az:=jq (ak.out.trans hb);have sO:=jq (oH.out.keepAt hb me);replace zf:=ht.word;have dP:Z<w3.heap.size:=ht.2.1;replace p1:=(iQ (a:=⟨E,1,none⟩) hx).trans p1;replace p2:=(iQ (a:=⟨E,2,none⟩) hx).trans p2;clear ht hx hb p0 Jy;go_wp2_with fail;refine (so Y Z E _ _ x.n HX.out.2.1.1 (by have:=HX.out.2.1.2;omega) w3 oL.out (by omega) sO.out).mono ?_;rintro e w4 ⟨rfl,ht,hx,hb⟩;have zT:=jq ht;have br:=jq (az.out.trans hb);have mB:=jq (sO.out.keepAt hb me);replace zf:=ht.word;have eC:Z<w4.heap.size:=ht.2.1;replace p2:=(iQ (a:=⟨E,2,none⟩) hx).trans p2;clear ht hx hb p1;go_wp2_with fail;refine (so Y Z E _ _ x.m HX.out.2.2.1 (by have:=HX.out.2.2.2;omega) w4 zT.out (by omega) mB.out).mono ?_;rintro e w5 ⟨rfl,ht,hx,hb⟩;have zU:=jq ht;have cj:=jq (br.out.trans hb);have mC:=jq (mB.out.keepAt hb me);replace zf:=ht.word;have jB:Z<w5.heap.size:=ht.2.1;clear ht hx hb p2;go_wp2_with fail;go_roundw
   case rel=>exact⟨k+1,by omega,by go_num,jB,jq (by have h:=zU.out.back;rw[pJ.out,GH.out] at h;exact h.more (by omega)),cj⟩
   case measure=>simp[intOf] <;> omega
  ·have eK:Hid (d.take k=d):=jq (kQ (by rw[gW.out];omega));obtain⟨f1,nS⟩:∃ f1,f0++d.flatMap Np.pN=f1:=⟨_,rfl⟩;have sL:=jq my.out;rw[nS] at sL;have T8:Hid (TxK Y Z Z 202000 (g8 f1 []) wr):=jq (by have h:=HT.out;rw[eK.out] at h;unfold gZ at h;rw[nS] at h;have h2:=h.more (show 2000 * (k+1)<=202000 by omega);simpa [g8] using h2);clear nS HT;go_wp2_with fail;clear aa hk;obtain⟨wo,rfl⟩:∃ wo,wo=wr:=⟨_,rfl⟩;go_loopw [57] (λi wr=>∃ k:Nat,k<=n2/\i = .int .i64 k/\Z<wr.heap.size/\Hid (TxK Y Z Z (202000+4000 * k) (g8 f1 (g.take k)) wr)/\Hid (Below Y wo wr)) (λi _=>n2 - (intOf i).toNat)
   case atStart=>exact⟨0,jQ _,rfl,WR,by simpa using T8,jq (vQ _ _)⟩
   case round=>
    obtain⟨k,hk,rfl,hZs,HT,je⟩:=hrel;have HC:=jq (HB.out.trans (je.out.mono (by omega)));have TJ:=jq (Lz.out.keepAt je.out me);have s4:=(cl je.out (by omega)).trans q4;clear q3 q4;by_cases aa:k<n2
    ·obtain⟨x,ab⟩:∃ x,g[k]?=some x:=⟨_,aQ (by rw[nA.out];exact aa)⟩;obtain⟨b,o,c',t,hA,bU,ht,wu,g0,g1,g2,g3,g4,g5⟩:=om (HG.out.keep dH HC.out) ab;simp only[Value.slice.injEq] at hA;obtain⟨rfl,-,rfl⟩:=hA;have HX:=jq (HK.out.sigs x (gQ ab));have GH:=jq (UC (f:=f1) ab);have pJ:=jq ht;have eK:Hid (t.data.toList.length<=1000):=jq (by rw[ht];exact HX.out.1);clear ab ht wu;have bX:(0:Int)<=(k:Int):=by omega
     have bW:(k:Int)<(n2:Int):=by omega
     obtain⟨E,hE⟩:∃ E,wr.heap.size=E:=⟨_,rfl⟩;obtain⟨w2,ae⟩:∃ w2,wr.alloc (.cells #[.string t,.int .i64 x.key,.int .i64 x.alg,.int .i64 x.frm,.int .i64 x.til,.int .u64 x.sum] 50)=w2:=⟨_,rfl⟩;have ac:Below wr.heap.size wr w2:=by rw[<-ae];exact (vQ _ _).alloc (bQ _) _
     have aM:wr.heap.size<w2.heap.size:=by rw[<-ae];simp
     have p0:w2.cell? ⟨E,0,none⟩=some (.string t):=by rw[<-ae,<-hE];simp[go_sem]
     have p1:w2.cell? ⟨E,1,none⟩=some (.int .i64 x.key):=by rw[<-ae,<-hE];simp[go_sem]
     have p2:w2.cell? ⟨E,2,none⟩=some (.int .i64 x.alg):=by rw[<-ae,<-hE];simp[go_sem]
     have p3:w2.cell? ⟨E,3,none⟩=some (.int .i64 x.frm):=by rw[<-ae,<-hE];simp[go_sem]
     have p4:w2.cell? ⟨E,4,none⟩=some (.int .i64 x.til):=by rw[<-ae,<-hE];simp[go_sem]
     have p5:w2.cell? ⟨E,5,none⟩=some (.int .u64 x.sum):=by rw[<-ae,<-hE];simp[go_sem]
     have gX:Hid (TxK Y Z E (202000+4000 * k) (g8 f1 (g.take k)) w2):=jq (by rw[<-hE];exact HT.out.fresh ac aM);have ak:Hid (Below Y wo w2):=jq (je.out.trans (ac.mono (by omega)));have oH:=jq (TJ.out.keep ac);have zf:=gX.out.word;have Jy:Z<w2.heap.size:=by omega
     clear ac aM;go_wp2_with fail;clear ae s4 hE;refine (CE Y Z E _ _ t w2 gX.out (by omega) eK.out).mono ?_;rintro e w3 ⟨rfl,ht,hx,hb⟩;have oL:=jq ht;have az:=jq (ak.out.trans hb);have sO:=jq (oH.out.keepAt hb me);replace zf:=ht.word;have dP:Z<w3.heap.size:=ht.2.1;replace p1:=(iQ (a:=⟨E,1,none⟩) hx).trans p1;replace p2:=(iQ (a:=⟨E,2,none⟩) hx).trans p2;replace p3:=(iQ (a:=⟨E,3,none⟩) hx).trans p3;replace p4:=(iQ (a:=⟨E,4,none⟩) hx).trans p4;replace p5:=(iQ (a:=⟨E,5,none⟩) hx).trans p5;clear ht hx hb p0 Jy;go_wp2_with fail;refine (so Y Z E _ _ x.key HX.out.2.1.1 (by have:=HX.out.2.1.2;omega) w3 oL.out (by omega) sO.out).mono ?_;rintro e w4 ⟨rfl,ht,hx,hb⟩;have zT:=jq ht;have br:=jq (az.out.trans hb);have mB:=jq (sO.out.keepAt hb me);replace zf:=ht.word;have eC:Z<w4.heap.size:=ht.2.1;replace p2:=(iQ (a:=⟨E,2,none⟩) hx).trans p2;replace p3:=(iQ (a:=⟨E,3,none⟩) hx).trans p3;replace p4:=(iQ (a:=⟨E,4,none⟩) hx).trans p4;replace p5:=(iQ (a:=⟨E,5,none⟩) hx).trans p5;clear ht hx hb p1;go_wp2_with fail;refine (so Y Z E _ _ x.alg HX.out.2.2.1.1 (by have:=HX.out.2.2.1.2;omega) w4 zT.out (by omega) mB.out).mono ?_;rintro e w5 ⟨rfl,ht,hx,hb⟩;have zU:=jq ht;have cj:=jq (br.out.trans hb);have mC:=jq (mB.out.keepAt hb me);replace zf:=ht.word;have jB:Z<w5.heap.size:=ht.2.1;replace p3:=(iQ (a:=⟨E,3,none⟩) hx).trans p3;replace p4:=(iQ (a:=⟨E,4,none⟩) hx).trans p4;replace p5:=(iQ (a:=⟨E,5,none⟩) hx).trans p5;clear ht hx hb p2;go_wp2_with fail;refine (so Y Z E _ _ x.frm HX.out.2.2.2.1.1 (by have:=HX.out.2.2.2.1.2;omega) w5 zU.out (by omega) mC.out).mono ?_;rintro e w6 ⟨rfl,ht,hx,hb⟩;have G5:=jq ht;have dh:=jq (cj.out.trans hb);have qV:=jq (mC.out.keepAt hb me);replace zf:=ht.word;have gI:Z<w6.heap.size:=ht.2.1;replace p4:=(iQ (a:=⟨E,4,none⟩) hx).trans p4;replace p5:=(iQ (a:=⟨E,5,none⟩) hx).trans p5;clear ht hx hb p3;go_wp2_with fail;refine (so Y Z E _ _ x.til HX.out.2.2.2.2.1.1 (by have:=HX.out.2.2.2.2.1.2;omega) w6 G5.out (by omega) qV.out).mono ?_;rintro e w7 ⟨rfl,ht,hx,hb⟩;have xO:=jq ht;have eI:=jq (dh.out.trans hb);have GL:=jq (qV.out.keepAt hb me);replace zf:=ht.word;have po:Z<w7.heap.size:=ht.2.1;replace p5:=(iQ (a:=⟨E,5,none⟩) hx).trans p5;clear ht hx hb p4;have Zu:E<w7.heap.size:=xO.out.2.2.2.1.1;have IE:∀ g:bK w7,g.w.cell? ⟨Z,0,none⟩=some (.func (.func 128) #[] #[.pointer (some ⟨Y,0,none⟩)]):=λg=>(g.cell ⟨Z,0,none⟩ po).trans zf;have Xu:∀ g:bK w7,g.w.cell? ⟨E,5,none⟩=some (.int .u64 x.sum):=λg=>(g.cell ⟨E,5,none⟩ Zu).trans p5;have HI:Hid (∀ g:bK w7,Calls prog 133 #[.int .u64 x.sum,.int .i64 10] g.w λe w'=>e = .returned (aD (Np.aX x.sum))/\Below g.w.heap.size g.w w'):=jq (λg=>Nb x.sum HX.out.2.2.2.2.2.1 HX.out.2.2.2.2.2.2 g.w (GL.out.keep g.below));have ji:Hid ((Np.aX x.sum).length<=20):=jq (vg HX.out.2.2.2.2.2.2);go_wp2_with fail;refine RU 4 (by kernel_rfl) (by kernel_rfl) ?_;simp only[List.take_succ_cons,List.take_zero,List.drop_succ_cons,List.drop_zero]
     repeat (go_big_quiet_step (fail))
     go_big_quiet_step ((go_at_call 133;exact Calls.grow_of (HI.out _)))
     repeat (go_big_quiet_step (fail))
     refine wpQuiet_nil ?_;rintro _ ⟨g,rfl⟩;have LL:=jq (xO.out.keep g.below);have gr:=jq (eI.out.trans (g.below.mono (show Y<=w7.heap.size by omega)));obtain⟨w8,f8⟩:∃ w1,g.w=w1:=⟨_,rfl⟩;rw[f8] at LL gr |-;clear IE Xu f8 p5 zf;go_wp2_with fail;refine (CE Y Z E _ _ ⟨(Np.aX x.sum).toArray⟩ w8 LL.out (by omega) (by have:=ji.out;simp;omega)).mono ?_;rintro e w9 ⟨rfl,ht,hx,hb⟩;have T4:=jq ht.back;have gK:=jq (gr.out.trans hb);have yK:=ht.2.1;clear ht hx hb;go_wp2_with fail;go_roundw
     case rel=>exact⟨k+1,by omega,by go_num,yK,jq (by have h:=T4.out;rw[pJ.out] at h;rw[<-GH.out];exact TxK.more (by simpa using h) (by omega)),gK⟩
     case measure=>simp[intOf] <;> omega
    ·have T6:Hid (g.take k=g):=jq (kQ (by rw[nA.out];omega));obtain⟨-,-,-,-,-,r,bC,-,-⟩:=HT.out;rw[T6.out,sL.out] at bC;have eX:=jq bC;clear bC;go_wp2_with fail;refine (Rm Y Y _ wr eX.out.read).mono ?_;rintro e w9 ⟨rfl,_,dK⟩;have gK:=jq (HC.out.trans (dK.mono (by omega)));clear dK;go_wp2_with fail;go_ret;exact⟨rfl,gK.out⟩
end
section
open Go.ChangeShapes Go.WideShapes Go.ChangeAt Go.RowKit Go.Deep
def ir{α:Type}(P:Program)(t:TypeId)(sz:Nat)(R:World->Nat->List Value->α->Prop):Prop:=
 ∀ (H:Type) (enc:TypeId×Value->H) (W:World) (base:Nat) (spare:Nat->Bool) (held:Bool) (fuel:Nat) (cs:List Value) (d:DataW H) (ps:List MemPlace),
   DataW.trod enc P W base spare held fuel t cs=some (d,ps)->(∀ n∈d.weights P t,n<=reachBytes)->cs.length=sz/\∃ x,R W W.heap.size cs x
def RNum(k:IntKind)(_:World)(_:Nat)(e:List Value)(x:Int):Prop:=e = [.int k x]/\(Lit.int k x).wf=true
theorem kl{P:Program}{t:TypeId}{k:IntKind}(ht:P.underlying t=some (.int k)):ir P t 1 (RNum k):=by
 intro H enc W base spare held fuel cs d ps h _;obtain⟨n,rfl,_,Y9⟩:=DataW.trod_int ht h;exact⟨rfl,n,rfl,Y9⟩
def RStr(_:World)(_:Nat)(e:List Value)(x:List UInt8):Prop:=∃ s:ByteArray,s.data.toList=x/\s.size<=140737488355328/\e = [.string s]
theorem Cv{P:Program}{t:TypeId}(ht:P.underlying t=some .string):ir P t 1 RStr:=by
 intro H enc W base spare held fuel cs d ps h hw;obtain⟨s,rfl,hx,_⟩:=DataW.trod_string ht h;simp only[Prod.mk.injEq] at hx;rw[hx.1] at hw
 have:=hw s.data.toList.length (by simp[DataW.weights])
 have h2:=reachBytes_lt;exact⟨rfl,s.data.toList,s,rfl,by rw[aZ] at this;omega,rfl⟩
def RSl{α:Type}(R:World->Nat->List Value->α->Prop)(sz:Nat)(W:World)(B:Nat)(e:List Value)(xs:List α):Prop:=∃ v,e = [v]/\SlR R sz W B v xs
theorem RSl.more{α:Type}{R:World->Nat->List Value->α->Prop}{sz:Nat}(h:dJ R):dJ (RSl R sz):=λ_ _ _ _ _ ⟨v,hv,hs⟩ hb=>⟨v,hv,hs.more h hb⟩
theorem RI{H:Type}{P:Program}{e:TypeId} : ∀ {ds:List (DataW H)} {d:DataW H},d∈ds->∀ n∈d.weights P e,n∈DataW.weightsAll P e ds
 | d0::ds,d,hd,n,hn=>by
   simp only[DataW.weightsAll,List.mem_append];rcases List.mem_cons.1 hd with rfl | hd
   ·exact .inl hn
   ·exact .inr (RI hd n hn)
theorem Mf(b o n:Nat):(⟨b,o,none⟩:Addr).add n=⟨b,o+n,none⟩:=by
 unfold Addr.add;split
 ·rename_i h;subst h;rfl
 ·rfl
theorem UE{W:World}{a:Addr}{v:Value}(h:W.cell? a=some v):a=⟨a.block,a.off,none⟩:=by
 have:=World.cell?_spot h
 cases a;simp_all
theorem yV{α:Type}{P:Program}{t e:TypeId}{sz:Nat}{R:World->Nat->List Value->α->Prop}(ht:P.underlying t=some (.slice e))(hC:P.cellsOf e=sz)(ap:0<sz)(hb:0<P.bytesOf e)(hR:ir P e sz R):ir P t 1 (RSl R sz):=by
 intro H enc W base spare held fuel cs d ps h hw;rcases open_slice ht h with ⟨rfl,_⟩ | ⟨a,len,cap,m,n,D,Pl,rfl,fW,hl,hm,pb,hx,hi⟩
 ·exact⟨rfl,[],_,rfl,none,0,rfl,by simp,by simp,λi x hx=>by simp at hx⟩
 ·simp only[Prod.mk.injEq] at hx;rw[hx.1] at hw;have yq:len<=m:=by rw[pb];split <;> omega
  have hlen:len<=140737488355328:=by
   have:=hw ((((List.range len).map D).length+((List.range (m - len)).map λj=>D (len+j)).length) * P.bytesOf e) (by simp[DataW.weights,ht])
   simp only[List.length_map,List.length_range] at this;have h2:=reachBytes_lt;have h3:len+(m - len)<=(len+(m - len)) * P.bytesOf e:=Nat.le_mul_of_pos_right _ hb;omega
  have bV:∀ i,i<len->∃ x cs',W.cells? base (a.add (i * sz)) sz=some cs'/\cs'.length=sz/\R W W.heap.size cs' x:=λi dE=>by
   obtain⟨cs',hc,Y0⟩:=hi i (by omega);rw[hC] at hc;obtain⟨h1,x,h2⟩:=hR H enc W base spare held n cs' (D i) (Pl i) Y0 (λk hk=>hw k (by
    simp only[DataW.weights,ht];exact mQ _ (List.mem_append_left _ (RI (List.mem_map.2 ⟨i,List.mem_range.2 dE,rfl⟩) k hk))))
   exact⟨x,cs',hc,h1,h2⟩
  have aA:∀ k,k<=len->∃ xs:List α,xs.length=k/\∀ i x,xs[i]?=some x->∃ cs',W.cells? base (a.add (i * sz)) sz=some cs'/\cs'.length=sz/\R W W.heap.size cs' x:=by
   intro k
   induction k with
   | zero=>exact λ_=>⟨[],rfl,λi x hx=>by simp at hx⟩
   | succ k ih=>
    intro hk;obtain⟨xs,tV,kN⟩:=ih (by omega);obtain⟨x,hx⟩:=bV k (by omega);refine⟨xs ++ [x],by simp[tV],λi y hy=>?_⟩;rcases Nat.lt_or_ge i xs.length with aa | lZ
    ·rw[List.getElem?_append_left aa] at hy;exact kN i y hy
    ·rw[oQ lZ] at hy
     have:i - xs.length=0:=by
      have:=(cQ.1 hy).1
      simp at this;omega
     rw[this] at hy;simp at hy;subst hy;rw[show i=k by omega];exact hx
  obtain⟨xs,tV,kN⟩:=aA len (bQ _);refine⟨rfl,xs,_,rfl,some a,cap,by rw[tV],by omega,by omega,λi x hx=>?_⟩;have h0:0<len:=by have:=(cQ.1 hx).1;omega
  obtain⟨c0,D7,aSX,_⟩:=kN 0 _ (aQ (by omega));obtain⟨_,_,Xt⟩:=World.cells?_some D7;have ha:a=⟨a.block,a.off,none⟩:=by
   have h1:=Xt 0 ap;rw[show (a.add (0 * sz)).add 0=a by simp[Addr.add]] at h1;rw[aQ (by omega)] at h1;exact UE h1
  obtain⟨cs',hc,iy,DY⟩:=kN i x hx;obtain⟨_,_,Xs⟩:=World.cells?_some hc;have hce:ai W a.block (a.off+i * sz) cs':=λj u hj=>by
   have mP:=(cQ.1 hj).1;have h1:=Xs j (by omega);rw[hj,ha] at h1;have h2:((⟨a.block,a.off,none⟩:Addr).add (i * sz)).add j=⟨a.block,a.off+i * sz+j,none⟩:=by
    rw[Mf,Mf]
   rw[h2] at h1;exact h1
  refine⟨a.block,a.off,cs',by rw[<-ha],?_,iy,hce,DY⟩
  have:=World.block_lt_of_cell? W _ (hce 0 _ (aQ (by omega)))
  exact this
theorem tY{P:Program}{t:TypeId}{fs:Array Field}(hs:P.underlying t=some (.struct fs)){H:Type}{enc:TypeId×Value->H}{W:World}{base:Nat}{spare:Nat->Bool}{held:Bool}{fuel:Nat}{cs:List Value}{d:DataW H}{ps:List MemPlace}
 (h:DataW.trod enc P W base spare held fuel t cs=some (d,ps)) (hw:∀ n∈d.weights P t,n<=reachBytes) :
 cs.length=P.cellsOf t/\∀ (j:Nat) (f:Field),fs[j]?=some f->∃ n d' ps',DataW.trod enc P W base spare held n f.type ((cs.drop f.offset).take (P.cellsOf f.type))=some (d',ps')/\∀ k∈d'.weights P f.type,k<=reachBytes:=by
 obtain⟨ys,n,_,hx,hl,hyl,hf⟩:=DataW.trod_struct hs h;simp only[Prod.mk.injEq] at hx;refine⟨hl,λj f hj=>?_⟩;have mP:j<fs.size:=(eQ.1 hj).1;have h1:=hf j f hj;rw[aQ (by omega)] at h1;refine⟨n,_,_,h1,λk hk=>hw k ?_⟩;rw[hx.1];simp only[DataW.weights,hs];refine DataW.weights_mem_each (j:=j) (t:=f.type) (d:=(ys[j]'(by omega)).1) ?_ ?_ k hk
 ·simp[hj]
 ·simp[aQ (show j<ys.length by omega)]
theorem Mv{H:Type}{enc:TypeId×Value->H}{P:Program}(hl:laidOutB P=true){W W':World}(hb:Below W.heap.size W W') :
 ∀ {ts:List TypeId} {vs:List Value} {ds:List (DataW H)} {ps:List MemPlace},(∀ t∈ts,P.readableRec t=true/\t<P.types.size)->DataW.TrodAll enc P W 0 (λ_=>true) true ts vs ds ps->(∀ x∈ps,x.block<W.heap.size)->
   DataW.TrodAll enc P W' 0 (λb=>decide (b<W.heap.size)) true ts vs ds ps
 | [],[],[],_,_,h,_=>h
 | t::ts,v::vs,d::ds,ps,hr,h,aa=>by
   obtain⟨p,q,h1,h2,rfl⟩:=h;have ht:=hr t (by simp);exact⟨p,q,Below.trod hl ht.1 ht.2 h1 hb (λx hx=>aa x (by simp[hx])),Mv hl hb (λt ht=>hr t (by simp[ht])) h2 (λx hx=>aa x (by simp[hx])),rfl⟩
 | [],_::_,_,_,_,h,_=>h.elim
 | [],[],_::_,_,_,h,_=>h.elim
 | _::_,[],_,_,_,h,_=>h.elim
 | _::_,_::_,[],_,_,h,_=>h.elim
theorem PM{H:Type}{enc:TypeId×Value->H}{P:Program}{f:Func}{s:ChangeSpec}{W W':World}{args:Array Value}{v:Value}{ds gs:List (DataW H)}{before:List MemPlace}
 (hl:laidOutB P=true) (hr:∀ t∈f.params.toList,P.readableRec t=true/\t<P.types.size) (fk:s.vars = [])
 (hW:DataW.Whole enc P f.params.toList s.vars false W args.toList ds gs before) (hb:Below W.heap.size W W')
 (rM:∀ (b:Nat) (sp:Nat->Bool) (hd:Bool),DataW.TrodAll enc P W' b sp hd f.resultTypes.toList (v.resultList f.resultTypes.size) (s.fn H (ds++gs)).results [])
 (Bc:(s.fn H (ds++gs)).args=ds) (Y5:(s.fn H (ds++gs)).vars = []) :
 s.post enc P f false true false false W args v W':=by
 have aa:=hW.lt;have hW':=hW;obtain⟨p,q,hA,hV,rfl,_,_⟩:=hW;rw[fk] at hV;have hq:q = []:=by
  cases gs with
  | nil=>exact hV
  | cons _ _=>exact hV.elim
 subst hq;refine⟨ds,gs,_,[],p,[],hW',rM _ _ _,?_,?_,World.keptBut_mono (λx hx=>⟨hx,.inr (by simpa using hx)⟩) (hb.frame (·∈p ++ [])),λh=>by cases h⟩
 ·rw[Bc];exact Mv hl hb hr hA (λx hx=>aa x (by simp[hx]))
 ·rw[Y5,fk];rfl
theorem AC:prog.cellsOf 9=1:=by kernel_rfl
theorem lo:laidOutB prog=true:=by kernel_rfl
end
section
open Go.RowKit
theorem oq{α:Type}{R:World->Nat->List Value->α->Prop}{sz:Nat}{w:World}{B:Nat}{v:Value}{xs:List α}(h:SlR R sz w B v xs):∃ A n c,v = .slice A n c:=by
 obtain⟨A,c,rfl,_⟩:=al h;exact⟨_,_,_,rfl⟩
theorem Q3(x y:Np.Signed)(s1 s2:ByteArray)(h1:s1.data.toList=x.set.name)(h2:s2.data.toList=y.set.name)(v1 u1 v2 u2:Value)(w:World)(gE:SlR bF 3 w w.heap.size v1 x.set.data)(tr:SlR dm 6 w w.heap.size u1 x.sigs)(iz:SlR bF 3 w w.heap.size v2 y.set.data)(Bu:SlR dm 6 w w.heap.size u2 y.sigs) :
 Calls prog 20 #[.agg #[.string s1,.int .i64 x.set.type,.int .i64 x.set.life,v1,u1],.agg #[.string s2,.int .i64 y.set.type,.int .i64 y.set.life,v2,u2]] w λe w'=>e = .returned (.bool (decide (x=y)))/\Below w.heap.size w w':=by
 refine (axZ s1 s2 _ _ _ _ v1 v2 u1 u2 _ _ _ _ w gE iz tr Bu).mono λe w' ⟨he,hb⟩=>⟨he.trans ?_,hb⟩;congr 2;rw[decide_eq_decide];obtain⟨⟨nx,tx,lx,dx⟩,gx⟩:=x;obtain⟨⟨ny,ty,ly,dy⟩,gy⟩:=y;dsimp only at h1 h2 |-;simp only[Np.Signed.mk.injEq,Np.DSet.mk.injEq];refine and_congr (and_congr ⟨λh=>by rw[<-h1,<-h2,h],λh=>lH (by rw[h1,h2,h])⟩ Iff.rfl) Iff.rfl
end
end Go.Proofs.YtfnopgdcaanaiaaGreatDoor
