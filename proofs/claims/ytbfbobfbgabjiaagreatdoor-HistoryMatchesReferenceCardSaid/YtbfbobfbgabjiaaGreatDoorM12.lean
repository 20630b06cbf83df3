/- Parts of the proof. No condition. -/
import Derived.Test.YtbfbobfbgabjiaaGreatDoorM09
import Derived.Test.YtbfbobfbgabjiaaGreatDoorM11
set_option linter.all false
set_option maxRecDepth 100000
set_option maxHeartbeats 8000000
namespace Go.Proofs.YtbfbobfbgabjiaaGreatDoor
open Go.Proofs.Tryz
section
open Go.RowKit Go.MapKept
theorem Tv(hv:Value)(n:Nat)(hn:∃ A c,hv = .slice A n c)(zv:Value)(l:List Np.Placed)(sv:Value)(ty life:Int)(dv cj:Value)(s:ByteArray)(aL:sv = .string s)(hl:l.length<=500)(hz:∀ p∈l,p.zone.sets.length<=20000)(w:World)(hR:iW w w.heap.size)(hd:SlR il 3 w w.heap.size zv l) :
 Calls prog 74 #[.agg #[hv,zv,sv,.int .i64 ty,.int .i64 life,dv,cj]] w λe w'=>e = .returned (.bool (Np.yes (Np.pD n l)))/\Below w.heap.size w w':=by
 obtain⟨r,hr⟩:∃ r,Np.yes (Np.pD n l)=r:=⟨_,rfl⟩;rw[hr];have HR:=jq hr;have HD:=jq hd;have gN:=jq hR;have HZ:=jq hz;obtain⟨Ah,ch,rfl⟩:=hn;obtain⟨A,c,rfl,bC,bH⟩:=ag hd;subst aL;clear hr hd hR hz;have baX:∀ (w:World),(Instr.makeMap 185 none).run prog w = .ok (.map (some w.heap.size)) (w.alloc (.map #[] 0)):=λw=>by
  simp[Instr.makeMap,Result.andThen]
 have bgX:∀ (w:World),(Instr.makeMap 151 none).run prog w = .ok (.map (some w.heap.size)) (w.alloc (.map #[] 0)):=λw=>by
  simp[Instr.makeMap,Result.andThen]
 have g8:decide (4000<(l.length:Int))=false:=tQ (by omega);go_enter func74,ntmps74;go_wp2_with fail;obtain⟨w1,al⟩:∃ w1,((w.alloc (.cells #[.slice Ah n ch,.slice A l.length c,.string s,.int .i64 ty,.int .i64 life,dv,cj] 34)).alloc (.map #[] 0)).alloc (.map #[] 0)=w1:=⟨_,rfl⟩;obtain⟨X,hX⟩:∃ X,w.heap.size=X:=⟨_,rfl⟩;obtain⟨X1,nm⟩:∃ X1,X+1=X1:=⟨_,rfl⟩;obtain⟨X2,Fv⟩:∃ X2,X1+1=X2:=⟨_,rfl⟩;have vZ:Hid (kn X1 [] w1):=jq (by
  rw[<-al,<-nm,<-hX];have h0:=kn.made (w.alloc (.cells #[.slice Ah n ch,.slice A l.length c,.string s,.int .i64 ty,.int .i64 life,dv,cj] 34));rw[show w.heap.size+1=(w.alloc (.cells #[.slice Ah n ch,.slice A l.length c,.string s,.int .i64 ty,.int .i64 life,dv,cj] 34)).heap.size by simp];exact h0.keep ((vQ _ _).alloc (bQ _) _) (by simp))
 have HN0:Hid (kU X2 0 w1):=jq (by
  rw[<-al,<-Fv,<-nm,<-hX];have h0:=kU.made ((w.alloc (.cells #[.slice Ah n ch,.slice A l.length c,.string s,.int .i64 ty,.int .i64 life,dv,cj] 34)).alloc (.map #[] 0));simpa using h0)
 have aF:Hid (Below X w w1):=jq (by rw[<-al,<-hX]; exact (((vQ _ _).alloc (bQ _) _).alloc (by simp) _).alloc (by simp; omega) _);have HC0:Hid (w1.cell? ⟨X,0,none⟩=some (.slice Ah n ch)):=jq (by rw[<-al,<-hX]; simp[go_sem]);have bI:X2<w1.heap.size:=by rw[<-al,<-Fv,<-nm,<-hX]; simp
 rw[al,hX,nm,Fv];have Ri:X<X1:=by omega
 have blX:X1<X2:=by omega
 rw[hX] at HD gN;have gF:=jq hX;clear al nm Fv;go_loopw [17] (λi wr=>∃ k:Nat,k<=l.length/\i = .int .i64 k/\Hid (Below X w wr)/\X2<wr.heap.size/\Hid (wr.cell? ⟨X,0,none⟩=some (.slice Ah n ch))/\Hid (kn X1 (((l.take k).map Np.js).map λy=>(y,Value.bool true)) wr)/\Hid (kU X2 k wr)/\Hid (Np.pD n (l.take k))) (λi _=>l.length - (intOf i).toNat)
 case atStart=>exact⟨0,jQ _,rfl,aF,bI,HC0,vZ,HN0,jq ⟨λp hp=>by simp at hp,by simp⟩⟩
 case round=>
  obtain⟨k,hk,rfl,HB,dF,HC,HM,HN,HV⟩:=hrel;have BZ:=HC.out;by_cases ab:k<l.length
  ·obtain⟨x,ac⟩:∃ x,l[k]?=some x:=⟨_,aQ ab⟩;obtain⟨b,o,sn,vz,rfl,bg,az,bL,bX,f0,f1,f2⟩:=DG (HD.out.keep ig HB.out) ac;have nh:=jq (VX (n:=n) (k:=k) ac);have ck:=jq (λh1 h2=>Uq ac HV.out h1 h2);have HF:Hid (¬ Np.En n x->r=false):=jq (λh=>by rw[<-HR.out]; exact Np.aP λq=>h (nh.out q).1);have rY:Hid (Np.js x∈(l.take k).map Np.js->r=false):=jq (λh=>by rw[<-HR.out]; exact Np.aP λq=>(nh.out q).2 h);have HT:Hid ((l.take (k+1)).map Np.js=(l.take k).map Np.js ++ [Np.js x]):=jq (by
    obtain⟨hl,he⟩:=cQ.1 ac;rw[fQ hl,he,List.map_append]; rfl)
   have Ba:Hid (x.zone.sets.length<=20000):=jq (HZ.out x (gQ ac));have qd:Hid (Np.js x=(x.host,sn.data.toList)):=jq (by unfold Np.js; rw[az]);obtain⟨Az,cz,rfl,_,_⟩:=ag bX;obtain⟨nz,iq⟩:∃ nz,x.zone.sets.length=nz:=⟨_,rfl⟩;have aS:=jq az;rw[iq] at f2;have dU:Hid (SlR bK 5 wr wr.heap.size (.slice Az nz cz) x.zone.sets):=jq (by rw[<-iq]; exact bX.more bR (by have:=HB.out.size; omega));obtain⟨w2,ai⟩:∃ w2,wr.alloc (.cells #[.int .i64 x.host,.string sn,.slice Az nz cz] 60)=w2:=⟨_,rfl⟩;obtain⟨w3,el⟩:∃ w3,w2.alloc (.cells #[.int .i64 x.host,.string sn] 187)=w3:=⟨_,rfl⟩;have aN:w2.heap.size=wr.heap.size+1:=by rw[<-ai]; simp
   have dP:w3.heap.size=w2.heap.size+1:=by rw[<-el]; simp
   have aa:Below wr.heap.size wr w2:=by rw[<-ai]; exact (vQ _ _).alloc (bQ _) _
   have ah:Below wr.heap.size wr w3:=by rw[<-el]; exact aa.alloc (by omega) _
   have p0:w2.cell? ⟨wr.heap.size,0,none⟩=some (.int .i64 x.host):=by rw[<-ai]; simp[go_sem]
   have p1:w2.cell? ⟨wr.heap.size,1,none⟩=some (.string sn):=by rw[<-ai]; simp[go_sem]
   have q0:w3.cell? ⟨wr.heap.size,0,none⟩=some (.int .i64 x.host):=by rw[<-el,<-p0]; simp[go_sem,aN]
   have q1:w3.cell? ⟨wr.heap.size,1,none⟩=some (.string sn):=by rw[<-el,<-p1]; simp[go_sem,aN]
   have q2:w3.cell? ⟨wr.heap.size,2,none⟩=some (.slice Az nz cz):=by rw[<-el,<-ai]; simp[go_sem]
   have r0:w3.cell? ⟨wr.heap.size+1,0,none⟩=some (.int .i64 x.host):=by rw[<-el,<-aN]; simp[go_sem]
   have r1:w3.cell? ⟨wr.heap.size+1,1,none⟩=some (.string sn):=by rw[<-el,<-aN]; simp[go_sem]
   have RK:w3.cell? ⟨X,0,none⟩=some (.slice Ah n ch):=(ah.cell (by dsimp only; omega)).trans BZ;have av:=jq (HB.out.trans (ah.mono (by omega)));have ru:Hid (kn X1 (((l.take k).map Np.js).map λy=>(y,Value.bool true)) w3):=jq (HM.out.keep ah (by omega));have uV:Hid (kU X2 k w3):=jq (HN.out.keep ah dF);have ml:Hid (SlR bK 5 w3 w3.heap.size (.slice Az nz cz) x.zone.sets):=jq ((dU.out.keep aV ah).more bR ah.size);have yM:Hid (X2<w3.heap.size):=jq (by omega);have jd:(Instr.lookup 185 (.map (some X1)) (.agg #[.int .i64 x.host,.string sn]) false).run prog w3 = .ok (.bool (decide ((x.host,sn.data.toList)∈(l.take k).map Np.js))) w3:=by
    have:=Uy w3 185 4 underlying185 X1 _ ru.out (x.host,sn.data.toList) (.bool false) (by kernel_rfl)
    rw[MO] at this;exact this
   rw[<-qd.out] at jd;clear ac az bX aa ah iq HM HN dU;by_cases g1:x.host<0
   ·have d1:decide (x.host<0)=true:=uQ g1;have HX:Hid (r=false):=jq (HF.out λh=>by have:=h.1; omega);clear g1;go_wp2_with fail;go_ret;exact⟨aj HX.out.symm,by rw[gF.out]; exact av.out⟩
   ·have d1:decide (x.host<0)=false:=tQ g1;by_cases g2:(n:Int)<=x.host
    ·have d2:decide ((n:Int)<=x.host)=true:=uQ g2;have HX:Hid (r=false):=jq (HF.out λh=>by have:=h.1; omega);clear g1 g2;go_wp2_with fail;go_ret;exact⟨aj HX.out.symm,by rw[gF.out]; exact av.out⟩
    ·have d2:decide ((n:Int)<=x.host)=false:=tQ g2;have HG:Hid (0<=x.host/\x.host<n):=jq (by omega);clear g1 g2;by_cases g3:Np.js x∈(l.take k).map Np.js
     ·rw[uQ g3] at jd;have HX:Hid (r=false):=jq (rY.out g3);clear g3;go_wp2_with fail;go_ret;exact⟨aj HX.out.symm,by rw[gF.out]; exact av.out⟩
     ·rw[tQ g3] at jd;have mX:=jq g3;clear g3;go_wp2_with fail;refine (LW sn bL _ x.zone.sets Ba.out w3 ((gN.out.keep av.out).more (by have:=av.out.size; omega)) ml.out).mono ?_;rintro e w4 ⟨rfl,am⟩;have ga:w3.heap.size<=w4.heap.size:=am.size;have s0:w4.cell? ⟨wr.heap.size,0,none⟩=some (.int .i64 x.host):=(am.cell (by dsimp only; omega)).trans q0;have s1:w4.cell? ⟨wr.heap.size,1,none⟩=some (.string sn):=(am.cell (by dsimp only; omega)).trans q1;have s2:w4.cell? ⟨wr.heap.size,2,none⟩=some (.slice Az nz cz):=(am.cell (by dsimp only; omega)).trans q2;have t0:w4.cell? ⟨wr.heap.size+1,0,none⟩=some (.int .i64 x.host):=(am.cell (by dsimp only; omega)).trans r0;have t1:w4.cell? ⟨wr.heap.size+1,1,none⟩=some (.string sn):=(am.cell (by dsimp only; omega)).trans r1;have bD:=jq (av.out.trans (am.mono (by omega)));have J5:Hid (kn X1 (((l.take k).map Np.js).map λy=>(y,Value.bool true)) w4):=jq (ru.out.keep am (by omega));have sD:Hid (kU X2 k w4):=jq (uV.out.keep am yM.out);have FN:w4.cell? ⟨X,0,none⟩=some (.slice Ah n ch):=(am.cell (by dsimp only; omega)).trans RK;have dT:=jq FN;clear am p0 p1 q0 q1 q2 r0 r1 ai el f0 f1 f2 jd RK ru uV;obtain⟨rz,fY⟩:∃ rz,Np.yes (Np.VZone ⟨sn.data.toList,x.zone.sets⟩)=rz:=⟨_,rfl⟩;rw[fY];have iJ:=jq fY;clear fY
      cases rz with
      | false=>
       have HX:Hid (r=false):=jq (HF.out λh=>by
        have h1:=h.2;have h2:x.zone=⟨sn.data.toList,x.zone.sets⟩:=by rw[aS.out]
        rw[h2] at h1;have h3:=Np.bO h1;rw[iJ.out] at h3
        cases h3)
       go_wp2_with fail;go_ret;exact⟨aj HX.out.symm,by rw[gF.out]; exact bD.out⟩
      | true=>
       have nY:Hid (Np.pD n (l.take (k+1))):=jq (ck.out ⟨HG.out,by
        have h2:x.zone=⟨sn.data.toList,x.zone.sets⟩:=by rw[aS.out]
        rw[h2];exact Np.eE.1 iJ.out⟩ mX.out)
       have auQ:Hid ((((l.take k).map Np.js).map λy=>(y,Value.bool true)).lookup (x.host,sn.data.toList)=none):=jq (by rw[<-qd.out]; exact MP _ _ mX.out);go_wp2_with (at_mapUpdate; first
        | (refine Tt _ rfl _ _ _ 185 rfl 4 underlying185 X1 _ rfl J5.out (x.host,sn.data.toList) rfl (.bool true) rfl auQ.out ?_; intro w5 mF mg; have s1':w5.cell? ⟨wr.heap.size,1,none⟩=some (.string sn):=(mg.cell (by dsimp only; omega)).trans s1; have H5:=jq (And.intro mF mg); have HN5:=jq (sD.out.turned mg (by omega)); clear mF mg s0 s1 s2 t0 t1 FN)
        | (refine Tu _ rfl _ _ _ 151 rfl 9 4 underlying151 underlying9 X2 k rfl HN5.out sn.data.toList rfl (.bool true) rfl ?_; intro w6 Sf Sy; have H6:=jq (And.intro Sf Sy); clear Sf Sy))
       go_roundw
       case rel=>
        refine⟨k+1,by omega,by go_num,jq (((bD.out.trans (H5.out.2.below (by omega))).trans (H6.out.2.below (by omega)))),by rw[H6.out.2.size,H5.out.2.size]; have:=yM.out; omega,jq ((H6.out.2.cell (by dsimp only; omega)).trans ((H5.out.2.cell (by dsimp only; omega)).trans dT.out)),jq ?_,jq H6.out.1,nY⟩;have h1:=H5.out.1.keep' (w':=w6) (H6.out.2.block _ (by omega));rw[HT.out,List.map_append,qd.out];exact h1
       case measure=>simp[intOf] <;> omega
  ·have HVL:Hid (Np.pD n l):=jq (by have:=HV.out; rwa [kQ (by omega)] at this);obtain⟨es,ce,kvs,hes,_,an⟩:=HN.out;have hd5:decide ((es.size:Int)<=500)=true:=uQ (by omega);have Fx:(Builtin.len_ #[151] 3 #[.map (some X2)]).run prog wr = .ok (.int .i64 (es.size:Int)) wr:=by
    simp[Builtin.len_,run_underlying underlying151,MapKept.run_getObj_map hes,Result.andThen,goInt]
   obtain⟨m5,mF⟩:∃ m5,es.size=m5:=⟨_,rfl⟩;rw[mF] at Fx hd5;clear hes mF;go_wp2_with fail;go_ret;exact⟨aj (by rw[<-HR.out]; exact (Np.bO HVL.out).symm),by rw[gF.out]; exact HB.out⟩
theorem Uo{w:Np.WorldP} : Np.VWorld w↔(Np.VHosts w.hosts/\Np.pD w.hosts.length w.zones)/\Np.VRoot w.anchor w.hints:=
 ⟨λh=>⟨⟨h.hosts,h.each,h.apart⟩,h.root⟩,λh=>⟨h.1.1,h.2,h.1.2.1,h.1.2.2⟩⟩
theorem LQ(hv:Value)(hs:List Np.Host)(zv:Value)(l:List Np.Placed)(s:ByteArray)(an:s.size<=140737488355328)(ty life:Int)(dv:Value)(d:List Np.Datum)(cj:Value)(hints:List Int)(hl:l.length<=500)(hz:∀ p∈l,p.zone.sets.length<=20000)(w:World)(hR:iW w w.heap.size)
 (hh:SlR gW 3 w w.heap.size hv hs) (hd:SlR il 3 w w.heap.size zv l) (hdd:SlR cG 3 w w.heap.size dv d) (kp:SlR ip 1 w w.heap.size cj hints) :
 Calls prog 27 #[.agg #[hv,zv,.string s,.int .i64 ty,.int .i64 life,dv,cj]] w λe w'=>e = .returned (.bool (Np.yes (Np.VWorld ⟨hs,l,⟨s.data.toList,ty,life,d⟩,hints⟩)))/\Below w.heap.size w w':=by
 obtain⟨r,hr⟩:∃ r,Np.yes (Np.VWorld ⟨hs,l,⟨s.data.toList,ty,life,d⟩,hints⟩)=r:=⟨_,rfl⟩;rw[hr];have HR:Hid (Np.yes ((Np.VHosts hs/\Np.pD hs.length l)/\Np.VRoot ⟨s.data.toList,ty,life,d⟩ hints)=r):=jq (by rw[<-hr]; exact (Np.tw (Uo (w:=⟨hs,l,⟨s.data.toList,ty,life,d⟩,hints⟩))).symm);have HH:=jq hh;have HD:=jq hd;have rB:=jq hdd;have mU:=jq kp;have gN:=jq hR;obtain⟨A1,c1,rfl,_,_⟩:=ag hh;obtain⟨A2,c2,rfl,_,_⟩:=ag hd;obtain⟨A3,c3,rfl,_,_⟩:=ag hdd;obtain⟨A4,c4,rfl,_,_⟩:=ag kp;clear hr hd hR hh hdd kp;obtain⟨W1,ae⟩:∃ W1,w.alloc (.cells #[.slice A1 hs.length c1,.slice A2 l.length c2,.string s,.int .i64 ty,.int .i64 life,.slice A3 d.length c3,.slice A4 hints.length c4] 34)=W1:=⟨_,rfl⟩;have aw:Below w.heap.size w W1:=by rw[<-ae]; exact (vQ _ _).alloc (bQ _) _
 have eG:W1.heap.size=w.heap.size+1:=by rw[<-ae]; simp
 obtain⟨n1,aJ⟩:∃ n,hs.length=n:=⟨_,rfl⟩;obtain⟨n2,aK⟩:∃ n,l.length=n:=⟨_,rfl⟩;obtain⟨n3,bk⟩:∃ n,d.length=n:=⟨_,rfl⟩;obtain⟨n4,bl⟩:∃ n,hints.length=n:=⟨_,rfl⟩;rw[aJ,aK,bk,bl] at ae;rw[aJ] at HH HR;rw[aK] at HD;rw[bk] at rB;rw[bl] at mU;rw[aJ,aK,bk,bl];have k0:W1.cell? ⟨w.heap.size,0,none⟩=some (.slice A1 n1 c1):=by rw[<-ae]; simp[go_sem]
 have k1:W1.cell? ⟨w.heap.size,1,none⟩=some (.slice A2 n2 c2):=by rw[<-ae]; simp[go_sem]
 have k2:W1.cell? ⟨w.heap.size,2,none⟩=some (.string s):=by rw[<-ae]; simp[go_sem]
 have k3:W1.cell? ⟨w.heap.size,3,none⟩=some (.int .i64 ty):=by rw[<-ae]; simp[go_sem]
 have k4:W1.cell? ⟨w.heap.size,4,none⟩=some (.int .i64 life):=by rw[<-ae]; simp[go_sem]
 have k5:W1.cell? ⟨w.heap.size,5,none⟩=some (.slice A3 n3 c3):=by rw[<-ae]; simp[go_sem]
 have k6:W1.cell? ⟨w.heap.size,6,none⟩=some (.slice A4 n4 c4):=by rw[<-ae]; simp[go_sem]
 have ay:=jq aw;have HN:=jq (And.intro aJ (And.intro aK (And.intro bk bl)));clear aw aJ aK bk bl;go_enter func27,ntmps27;go_wp2_with fail;refine (TJ _ hs _ (HH.out.later fF jZ ay.out)).mono ?_;rintro e w2 ⟨rfl,aa⟩;replace k0:=(cl aa (by omega)).trans k0;replace k1:=(cl aa (by omega)).trans k1;replace k2:=(cl aa (by omega)).trans k2;replace k3:=(cl aa (by omega)).trans k3;replace k4:=(cl aa (by omega)).trans k4;replace k5:=(cl aa (by omega)).trans k5;replace k6:=(cl aa (by omega)).trans k6;have aN:=aa.size;have ak:=jq (ay.out.trans (aa.mono (by omega)));clear aa ae;obtain⟨b1,aq⟩:∃ b1,Np.yes (Np.VHosts hs)=b1:=⟨_,rfl⟩;rw[aq];have uR:=jq aq;clear aq
 cases b1 with
 | false=>
  have HX:Hid (r=false):=jq (by rw[<-HR.out]; exact Np.aP λq=>by have:=Np.bO q.1.1; rw[uR.out] at this; cases this);go_wp2_with fail;go_ret;exact⟨aj HX.out.symm,ak.out⟩
 | true=>
  go_wp2_with fail;refine (Tv _ n1 ⟨_,_,rfl⟩ _ l _ ty life _ _ s rfl hl hz _ ((gN.out.keep ak.out).more ak.out.size) (HD.out.later ig gT ak.out)).mono ?_;rintro e w3 ⟨rfl,ah⟩;replace k0:=(cl ah (by omega)).trans k0;replace k1:=(cl ah (by omega)).trans k1;replace k2:=(cl ah (by omega)).trans k2;replace k3:=(cl ah (by omega)).trans k3;replace k4:=(cl ah (by omega)).trans k4;replace k5:=(cl ah (by omega)).trans k5;replace k6:=(cl ah (by omega)).trans k6;have dP:=ah.size;have av:=jq (ak.out.trans (ah.mono (by omega)));clear ah;obtain⟨b2,aa⟩:∃ b2,Np.yes (Np.pD n1 l)=b2:=⟨_,rfl⟩;rw[aa];have Bw:=jq aa;clear aa
  cases b2 with
  | false=>
   have HX:Hid (r=false):=jq (by rw[<-HR.out]; exact Np.aP λq=>by have:=Np.bO q.1.2; rw[Bw.out] at this; cases this);go_wp2_with fail;go_ret;exact⟨aj HX.out.symm,av.out⟩
  | true=>
   go_wp2_with fail;refine (T1 s an ty life _ d _ hints _ ((gN.out.keep av.out).more av.out.size) (rB.out.later cL dp av.out) (mU.out.later iU nv av.out)).mono ?_;rintro e w4 ⟨rfl,am⟩;have bD:=jq (av.out.trans (am.mono av.out.size));clear am;have HX:Hid (Np.yes (Np.VRoot ⟨s.data.toList,ty,life,d⟩ hints)=r):=jq (by
    rw[<-HR.out];exact Np.tw ⟨λq=>⟨⟨Np.eE.1 uR.out,Np.eE.1 Bw.out⟩,q⟩,λq=>q.2⟩)
   rw[HX.out];go_wp2_with fail;go_ret;exact⟨rfl,bD.out⟩
end
section
open Go.RowKit Go.MapKept Go.Shelf Go.Sort
theorem VC(f u f' u':Int)(w:World) :
 Calls prog 57 #[.agg #[.int .i64 f,.int .i64 u],.agg #[.int .i64 f',.int .i64 u']] w λe w'=>e = .returned (.int .i64 (Np.cX f f'))/\∃ q os,w'=grow (w.drewN q) os:=by
 go_enter func57,ntmps57;go_wp2_with (go_at_call 58; refine (An _ _ _).mono ?_; rintro e w' ⟨rfl,rfl⟩);go_ret;exact⟨rfl,0,_,by rw[alloc_eq_grow,alloc_eq_grow,grow_grow]; rfl⟩
def Np.tE(h:Np.Hist):Prop:=(1<=h.stop/\h.stop<=10000000)/\(0<=h.drift/\h.drift<=1000)
theorem U9{h:Np.Hist} : Np.VHist h↔((Np.tE h/\Np.VWorld ⟨h.hosts,[],h.anchor,h.hints⟩)/\∀ c∈h.copies,Np.CopyOk h c)/\h.copies.Pairwise λc d=>¬ Np.jN c d:=
 ⟨λv=>⟨⟨⟨⟨v.stop,v.drift⟩,v.hosts,v.root,λp hp=>(by cases hp),List.Pairwise.nil⟩,v.each⟩,v.apart⟩,λv=>⟨v.1.1.1.1,v.1.1.1.2,v.1.1.2.hosts,v.1.1.2.root,v.1.2,v.2⟩⟩
structure rU(W:World)(X:Nat)(hv cv:Value)(stop:Int):Prop where
 c0:W.cell? ⟨X,0,none⟩=some hv
 c1:W.cell? ⟨X,1,none⟩=some cv
 c8:W.cell? ⟨X,8,none⟩=some (.int .i64 stop)
 lt:X<W.heap.size
theorem rU.keep{W W':World}{X B:Nat}{hv cv:Value}{stop:Int}(h:rU W X hv cv stop)(hb:Below B W W')(hB:X<B):rU W' X hv cv stop:=⟨(hb.cell hB).trans h.c0,(hb.cell hB).trans h.c1,(hb.cell hB).trans h.c8,lQ h.lt hb.size⟩
theorem rU.turned{W W':World}{X r:Nat}{hv cv:Value}{stop:Int}(h:rU W X hv cv stop)(ht:Turned r W W')(hr:X≠r):rU W' X hv cv stop:=⟨(ht.cell hr).trans h.c0,(ht.cell hr).trans h.c1,(ht.cell hr).trans h.c8,by rw[ht.size]; exact h.lt⟩
theorem Y0{xs xs6:List fU}{l:List Np.Copy}{c:Np.Copy}{j:Nat}{g:List Np.Span}{v v':Value}(h:Np.GrpI (xs.map λx=>(x.1,x.2.1)) l)(hc:(xs6=xs/\xs[j]?=some (Np.gu c,g,v))\/(Np.gu c∉xs.map (·.1)/\xs6=xs ++ [(Np.gu c,[],.slice none 0 0)]/\j=xs.length/\g = []/\v = .slice none 0 0)):Np.GrpI ((xs6.set j (Np.gu c,g ++ [Np.im c],v')).map λx=>(x.1,x.2.1)) (l ++ [c]):=by
 rcases hc with ⟨rfl,hj⟩ | ⟨hn,rfl,rfl,rfl,rfl⟩
 ·rw[List.map_set];exact h.old (by rw[List.getElem?_map,hj]; rfl)
 ·rw[List.set_append_right _ _ (bQ _),Nat.sub_self,List.set_cons_zero,List.map_append];exact h.new (by rw[List.map_map]; exact hn)
theorem L5(hv:Value)(hs:List Np.Host)(cv:Value)(l:List Np.Copy)(s:ByteArray)(an:s.size<=140737488355328)(ty life:Int)(dv:Value)(d:List Np.Datum)(cj:Value)(hints:List Int)(drift stop:Int)(hl:l.length<=500)(hz:∀ p∈l,p.zone.sets.length<=20000)(w:World)(hR:iW w w.heap.size)
 (hh:SlR gW 3 w w.heap.size hv hs) (hd:SlR iF 5 w w.heap.size cv l) (hdd:SlR cG 3 w w.heap.size dv d) (kp:SlR ip 1 w w.heap.size cj hints) :
 Calls prog 16 #[.agg #[hv,cv,.string s,.int .i64 ty,.int .i64 life,dv,cj,.int .i64 drift,.int .i64 stop]] w λe w'=>e = .returned (.bool (Np.yes (Np.VHist ⟨hs,l,⟨s.data.toList,ty,life,d⟩,hints,drift,stop⟩)))/\Below w.heap.size w w':=by
 obtain⟨r,hr⟩:∃ r,Np.yes (Np.VHist ⟨hs,l,⟨s.data.toList,ty,life,d⟩,hints,drift,stop⟩)=r:=⟨_,rfl⟩;obtain⟨jb,sG⟩:∃ h:Np.Hist,(⟨hs,l,⟨s.data.toList,ty,life,d⟩,hints,drift,stop⟩:Np.Hist)=h:=⟨_,rfl⟩;rw[hr];have HR:Hid (Np.yes (((Np.tE jb/\Np.VWorld ⟨hs,[],⟨s.data.toList,ty,life,d⟩,hints⟩)/\∀ c∈l,Np.CopyOk jb c)/\l.Pairwise λc d=>¬ Np.jN c d)=r):=jq (by rw[<-hr,<-sG]; exact (Np.tw (U9 (h:=⟨hs,l,⟨s.data.toList,ty,life,d⟩,hints,drift,stop⟩))).symm);have ko:Hid (Np.tE jb↔(1<=stop/\stop<=10000000)/\(0<=drift/\drift<=1000)):=jq (by rw[<-sG]; exact Iff.rfl);have jU:Hid (∀ c,Np.CopyOk jb c↔(0<=c.host/\c.host<hs.length)/\(0<=c.frm/\c.frm<c.til/\c.til<=stop)/\Np.VZone c.zone):=jq (λc=>by rw[<-sG]; exact⟨λh=>⟨h.host,h.times,h.zone⟩,λh=>⟨h.1,h.2.1,h.2.2⟩⟩);have HH:=jq hh;have HD:=jq hd;have rB:=jq hdd;have mU:=jq kp;have gN:=jq hR;have HZ:=jq hz;obtain⟨A1,c1,rfl,_,_⟩:=ag hh;obtain⟨A2,c2,rfl,_,_⟩:=ag hd;obtain⟨A3,c3,rfl,_,_⟩:=ag hdd;obtain⟨A4,c4,rfl,_,_⟩:=ag kp;clear hr sG hd hR hh hdd kp hz;obtain⟨n1,aJ⟩:∃ n,hs.length=n:=⟨_,rfl⟩;obtain⟨n2,aK⟩:∃ n,l.length=n:=⟨_,rfl⟩;obtain⟨n3,bk⟩:∃ n,d.length=n:=⟨_,rfl⟩;obtain⟨n4,bl⟩:∃ n,hints.length=n:=⟨_,rfl⟩;rw[aJ] at HH jU |-;rw[aK] at HD hl |-;rw[bk] at rB |-;rw[bl] at mU |-;have HN:=jq (And.intro aJ (And.intro aK (And.intro bk bl)));clear aJ aK bk bl;obtain⟨W1,ae⟩:∃ W1,w.alloc (.cells #[.slice A1 n1 c1,.slice A2 n2 c2,.string s,.int .i64 ty,.int .i64 life,.slice A3 n3 c3,.slice A4 n4 c4,.int .i64 drift,.int .i64 stop] 29)=W1:=⟨_,rfl⟩;have aw:Below w.heap.size w W1:=by rw[<-ae]; exact (vQ _ _).alloc (bQ _) _
 have eG:W1.heap.size=w.heap.size+1:=by rw[<-ae]; simp
 obtain⟨X,hX⟩:∃ X,w.heap.size=X:=⟨_,rfl⟩;have gF:=jq hX;have k0:W1.cell? ⟨X,0,none⟩=some (.slice A1 n1 c1):=by rw[<-ae,<-hX]; simp[go_sem]
 have k1:W1.cell? ⟨X,1,none⟩=some (.slice A2 n2 c2):=by rw[<-ae,<-hX]; simp[go_sem]
 have k2:W1.cell? ⟨X,2,none⟩=some (.string s):=by rw[<-ae,<-hX]; simp[go_sem]
 have k3:W1.cell? ⟨X,3,none⟩=some (.int .i64 ty):=by rw[<-ae,<-hX]; simp[go_sem]
 have k4:W1.cell? ⟨X,4,none⟩=some (.int .i64 life):=by rw[<-ae,<-hX]; simp[go_sem]
 have k5:W1.cell? ⟨X,5,none⟩=some (.slice A3 n3 c3):=by rw[<-ae,<-hX]; simp[go_sem]
 have k6:W1.cell? ⟨X,6,none⟩=some (.slice A4 n4 c4):=by rw[<-ae,<-hX]; simp[go_sem]
 have k7:W1.cell? ⟨X,7,none⟩=some (.int .i64 drift):=by rw[<-ae,<-hX]; simp[go_sem]
 have k8:W1.cell? ⟨X,8,none⟩=some (.int .i64 stop):=by rw[<-ae,<-hX]; simp[go_sem]
 rw[hX] at aw eG HH HD rB mU gN;rw[hX];have ay:=jq aw;clear aw;go_enter func16,ntmps16;by_cases g1:stop<1
 ·have dg1:decide (stop<1)=true:=uQ g1;have HX:Hid (r=false):=jq (by rw[<-HR.out]; exact Np.aP λq=>by have:=ko.out.1 q.1.1.1; omega);clear g1;go_wp2_with fail;go_ret;exact⟨aj HX.out.symm,ay.out⟩
 have dg1:decide (stop<1)=false:=tQ g1;by_cases g2:10000000<stop
 ·have dg2:decide (10000000<stop)=true:=uQ g2;have HX:Hid (r=false):=jq (by rw[<-HR.out]; exact Np.aP λq=>by have:=ko.out.1 q.1.1.1; omega);clear g2;go_wp2_with fail;go_ret;exact⟨aj HX.out.symm,ay.out⟩
 have dg2:decide (10000000<stop)=false:=tQ g2;by_cases g3:drift<0
 ·have dg3:decide (drift<0)=true:=uQ g3;have HX:Hid (r=false):=jq (by rw[<-HR.out]; exact Np.aP λq=>by have:=ko.out.1 q.1.1.1; omega);clear g3;go_wp2_with fail;go_ret;exact⟨aj HX.out.symm,ay.out⟩
 have dg3:decide (drift<0)=false:=tQ g3;by_cases g4:1000<drift
 ·have dg4:decide (1000<drift)=true:=uQ g4;have HX:Hid (r=false):=jq (by rw[<-HR.out]; exact Np.aP λq=>by have:=ko.out.1 q.1.1.1; omega);clear g4;go_wp2_with fail;go_ret;exact⟨aj HX.out.symm,ay.out⟩
 have dg4:decide (1000<drift)=false:=tQ g4;have d5:decide (4000<(n2:Int))=false:=tQ (by omega);have IR:Hid (Np.tE jb):=jq (ko.out.2 (by omega));clear g1 g2 g3 g4;go_wp2_with fail;refine (LQ _ hs _ [] s an ty life _ d _ hints (by simp) (by simp) _ ((gN.out.keep ay.out).more (by omega)) ((HH.out.keep fF ay.out).more jZ (by omega)) ⟨none,0,rfl,by simp,by simp,λi x hx=>by simp at hx⟩ ((rB.out.keep cL ay.out).more dp (by omega)) ((mU.out.keep iU ay.out).more nv (by omega))).mono ?_;rintro e w2 ⟨rfl,aa⟩;have aN:=aa.size;have yT:Hid (rU w2 X (.slice A1 n1 c1) (.slice A2 n2 c2) stop):=jq (rU.keep ⟨k0,k1,k8,by omega⟩ aa (by omega));have ak:=jq (ay.out.trans (aa.mono (by omega)));clear aa ae k0 k1 k2 k3 k4 k5 k6 k7 k8;have k0:=yT.out.c0;have k1:=yT.out.c1;have Fss:=yT.out.lt;obtain⟨b1,aq⟩:∃ b1,Np.yes (Np.VWorld ⟨hs,[],⟨s.data.toList,ty,life,d⟩,hints⟩)=b1:=⟨_,rfl⟩;rw[aq];have uR:=jq aq;clear aq;have wN:∀ (w:World),(Instr.makeMap 110 none).run prog w = .ok (.map (some w.heap.size)) (w.alloc (.map #[] 0)):=λw=>by
  simp[Instr.makeMap,Result.andThen]
 cases b1 with
 | false=>
  have HX:Hid (r=false):=jq (by rw[<-HR.out]; exact Np.aP λq=>by have:=Np.bO q.1.1.2; rw[uR.out] at this; cases this);go_wp2_with fail;go_ret;exact⟨aj HX.out.symm,ak.out⟩
 | true=>
  go_wp2_with fail;obtain⟨wm,Ci⟩:∃ wm,w2.alloc (.map #[] 0)=wm:=⟨_,rfl⟩;obtain⟨X1,nm⟩:∃ X1,w2.heap.size=X1:=⟨_,rfl⟩;have vZ:Hid (MapX (X1+1) X1 [] wm):=jq (by rw[<-Ci,<-nm]; exact MapX.made _ _);have hzm:wm.heap.size=X1+1:=by rw[<-Ci,<-nm]; simp
  have uy:Below X1 w2 wm:=by rw[<-Ci,<-nm]; exact (vQ _ _).alloc (bQ _) _
  have I5:X<X1:=by omega
  have Jb:Hid (rU wm X (.slice A1 n1 c1) (.slice A2 n2 c2) stop):=jq (yT.out.keep uy I5);have J6:=jq (ak.out.trans (uy.mono (by omega)));rw[Ci,nm];clear Ci nm uy k0 k1;have er:Hid (l.length=n2):=jq HN.out.2.1;go_loopw [47] (λi wr=>∃ (k:Nat) (xs:List fU),k<=n2/\i = .int .i64 k/\X1<wr.heap.size/\Hid (Below X1 wm wr)/\Hid (MapX (X1+1) X1 xs wr)/\Hid (Np.GrpI (xs.map λx=>(x.1,x.2.1)) (l.take k))/\Hid (∀ c∈l.take k,Np.CopyOk jb c)) (λi _=>n2 - (intOf i).toNat)
  case atStart=>exact⟨0,[],jQ _,rfl,by omega,jq (vQ _ _),vZ,jq Np.GrpI.nil,jq (by simp)⟩
  case round=>
   obtain⟨k,xs,hk,rfl,dF,aO,HM,HG,bZ⟩:=hrel;have HB:=jq (J6.out.trans (aO.out.mono (by omega)));have dI:=jq (Jb.out.keep aO.out I5);have k0:=dI.out.c0;have k8:=dI.out.c8;by_cases ab:k<n2
   ·obtain⟨x,ac⟩:∃ x,l[k]?=some x:=⟨_,aQ (by rw[er.out]; exact ab)⟩;obtain⟨b,o,sn,vz,rfl,bg,az,bL,bX,f0,f1,f2,f3,f4⟩:=nC (HD.out.keep fk HB.out) ac;obtain⟨Az,cz,rfl,_,_⟩:=ag bX;obtain⟨nz,iq⟩:∃ nz,x.zone.sets.length=nz:=⟨_,rfl⟩;rw[iq] at f4;have HT:Hid (l.take (k+1)=l.take k ++ [x]):=jq (by
     obtain⟨hl,he⟩:=cQ.1 ac;rw[fQ hl,he])
    have HF:Hid (¬ Np.CopyOk jb x->r=false):=jq (λh=>by rw[<-HR.out]; exact Np.aP λq=>h (q.1.2 x (gQ ac)));have Ba:Hid (x.zone.sets.length<=20000):=jq (HZ.out x (gQ ac));have aS:=jq az;have dU:Hid (SlR bK 5 wr wr.heap.size (.slice Az nz cz) x.zone.sets):=jq (by rw[<-iq]; exact bX.more bR (by omega));obtain⟨w3,el⟩:∃ w3,wr.alloc (.cells #[.int .i64 x.host,.int .i64 x.frm,.int .i64 x.til,.string sn,.slice Az nz cz] 58)=w3:=⟨_,rfl⟩;have dP:w3.heap.size=wr.heap.size+1:=by rw[<-el]; simp
    have ah:Below wr.heap.size wr w3:=by rw[<-el]; exact (vQ _ _).alloc (bQ _) _
    have p0:w3.cell? ⟨wr.heap.size,0,none⟩=some (.int .i64 x.host):=by rw[<-el]; simp[go_sem]
    have p1:w3.cell? ⟨wr.heap.size,1,none⟩=some (.int .i64 x.frm):=by rw[<-el]; simp[go_sem]
    have p2:w3.cell? ⟨wr.heap.size,2,none⟩=some (.int .i64 x.til):=by rw[<-el]; simp[go_sem]
    have p3:w3.cell? ⟨wr.heap.size,3,none⟩=some (.string sn):=by rw[<-el]; simp[go_sem]
    have p4:w3.cell? ⟨wr.heap.size,4,none⟩=some (.slice Az nz cz):=by rw[<-el]; simp[go_sem]
    have q0:w3.cell? ⟨X,0,none⟩=some (.slice A1 n1 c1):=(ah.cell (by dsimp only; omega)).trans k0;have q8:w3.cell? ⟨X,8,none⟩=some (.int .i64 stop):=(ah.cell (by dsimp only; omega)).trans k8;have av:=jq (HB.out.trans (ah.mono (by omega)));have CC:=jq (aO.out.trans (ah.mono (by omega)));have ru:=jq (HM.out.keep ah);have ml:Hid (SlR bK 5 w3 w3.heap.size (.slice Az nz cz) x.zone.sets):=jq ((dU.out.keep aV ah).more bR ah.size);clear ac az bX iq ah dU;by_cases g1:x.host<0
    ·have dg1:decide (x.host<0)=true:=uQ g1;have HX:Hid (r=false):=jq (HF.out λh=>by have:=(jU.out x).1 h; omega);clear g1;go_wp2_with fail;go_ret;exact⟨aj HX.out.symm,av.out⟩
    have dg1:decide (x.host<0)=false:=tQ g1;by_cases g2:(n1:Int)<=x.host
    ·have dg2:decide ((n1:Int)<=x.host)=true:=uQ g2;have HX:Hid (r=false):=jq (HF.out λh=>by have:=(jU.out x).1 h; omega);clear g2;go_wp2_with fail;go_ret;exact⟨aj HX.out.symm,av.out⟩
    have dg2:decide ((n1:Int)<=x.host)=false:=tQ g2;by_cases g3:x.frm<0
    ·have dg3:decide (x.frm<0)=true:=uQ g3;have HX:Hid (r=false):=jq (HF.out λh=>by have:=(jU.out x).1 h; omega);clear g3;go_wp2_with fail;go_ret;exact⟨aj HX.out.symm,av.out⟩
    have dg3:decide (x.frm<0)=false:=tQ g3;by_cases g4:x.til<=x.frm
    ·have dg4:decide (x.til<=x.frm)=true:=uQ g4;have HX:Hid (r=false):=jq (HF.out λh=>by have:=(jU.out x).1 h; omega);clear g4;go_wp2_with fail;go_ret;exact⟨aj HX.out.symm,av.out⟩
    have dg4:decide (x.til<=x.frm)=false:=tQ g4;by_cases g5:stop<x.til
    ·have dg5:decide (stop<x.til)=true:=uQ g5;have HX:Hid (r=false):=jq (HF.out λh=>by have:=(jU.out x).1 h; omega);clear g5;go_wp2_with fail;go_ret;exact⟨aj HX.out.symm,av.out⟩
    have dg5:decide (stop<x.til)=false:=tQ g5;have BE:Hid ((0<=x.host/\x.host<n1)/\(0<=x.frm/\x.frm<x.til/\x.til<=stop)):=jq (by omega);clear g1 g2 g3 g4 g5;go_wp2_with fail;refine (LW sn bL _ x.zone.sets Ba.out w3 ((gN.out.keep av.out).more (by omega)) ml.out).mono ?_;rintro e w4 ⟨rfl,am⟩;have ga:w3.heap.size<=w4.heap.size:=am.size;have s0:w4.cell? ⟨wr.heap.size,0,none⟩=some (.int .i64 x.host):=(am.cell (by dsimp only; omega)).trans p0;have s1:w4.cell? ⟨wr.heap.size,1,none⟩=some (.int .i64 x.frm):=(am.cell (by dsimp only; omega)).trans p1;have s2:w4.cell? ⟨wr.heap.size,2,none⟩=some (.int .i64 x.til):=(am.cell (by dsimp only; omega)).trans p2;have s3:w4.cell? ⟨wr.heap.size,3,none⟩=some (.string sn):=(am.cell (by dsimp only; omega)).trans p3;have s4:w4.cell? ⟨wr.heap.size,4,none⟩=some (.slice Az nz cz):=(am.cell (by dsimp only; omega)).trans p4;have bD:=jq (av.out.trans (am.mono (by omega)));have Kj:=jq (CC.out.trans (am.mono (by omega)));have J5:=jq (ru.out.keep am);clear am p0 p1 p2 p3 p4 el f0 f1 f2 f3 f4 q0 q8 k0 k8 ru;obtain⟨rz,fY⟩:∃ rz,Np.yes (Np.VZone ⟨sn.data.toList,x.zone.sets⟩)=rz:=⟨_,rfl⟩;rw[fY];have iJ:=jq fY;clear fY
    cases rz with
    | false=>
     have HX:Hid (r=false):=jq (HF.out λh=>by
      have h1:=((jU.out x).1 h).2.2;have h2:x.zone=⟨sn.data.toList,x.zone.sets⟩:=by rw[aS.out]
      rw[h2] at h1;have h3:=Np.bO h1;rw[iJ.out] at h3
      cases h3)
     go_wp2_with fail;go_ret;exact⟨aj HX.out.symm,bD.out⟩
    | true=>
     have pU:Hid (Np.CopyOk jb x):=jq ((jU.out x).2 ⟨BE.out.1,BE.out.2,by
      have h2:x.zone=⟨sn.data.toList,x.zone.sets⟩:=by rw[aS.out]
      rw[h2];exact Np.eE.1 iJ.out⟩)
     have JF:Hid (∀ c∈l.take (k+1),Np.CopyOk jb c):=jq (λc hc=>by
      rw[HT.out] at hc;rcases List.mem_append.1 hc with hc | hc
      ·exact bZ.out c hc
      ·rw[List.mem_singleton] at hc; subst hc; exact pU.out)
     have qd:Hid (Np.gu x=(x.host,sn.data.toList)):=jq (by unfold Np.gu; rw[aS.out]);obtain⟨w5,aX⟩:∃ w5,w4.alloc (.cells #[.int .i64 x.host,.string sn] 112)=w5:=⟨_,rfl⟩;obtain⟨w6,cr⟩:∃ w6,w5.alloc (.cells #[.int .i64 x.frm,.int .i64 x.til] 114)=w6:=⟨_,rfl⟩;have kF:w5.heap.size=w4.heap.size+1:=by rw[<-aX]; simp
     have gP:w6.heap.size=w5.heap.size+1:=by rw[<-cr]; simp
     have aA:Below w4.heap.size w4 w5:=by rw[<-aX]; exact (vQ _ _).alloc (bQ _) _
     have aW:Below w4.heap.size w4 w6:=by rw[<-cr]; exact aA.alloc (by omega) _
     have t0:w5.cell? ⟨w4.heap.size,0,none⟩=some (.int .i64 x.host):=by rw[<-aX]; simp[go_sem]
     have t1:w5.cell? ⟨w4.heap.size,1,none⟩=some (.string sn):=by rw[<-aX]; simp[go_sem]
     have u1:w5.cell? ⟨wr.heap.size,1,none⟩=some (.int .i64 x.frm):=(aA.cell (by dsimp only; omega)).trans s1;have u2:w5.cell? ⟨wr.heap.size,2,none⟩=some (.int .i64 x.til):=(aA.cell (by dsimp only; omega)).trans s2;have y0:w6.cell? ⟨w5.heap.size,0,none⟩=some (.int .i64 x.frm):=by rw[<-cr]; simp[go_sem]
     have y1:w6.cell? ⟨w5.heap.size,1,none⟩=some (.int .i64 x.til):=by rw[<-cr]; simp[go_sem]
     have HM6:=jq (J5.out.keep aW);have cY:=jq (bD.out.trans (aW.mono (by omega)));have asZ:=jq (Kj.out.trans (aW.mono (by omega)));have ku:Hid (∀ (j:Nat) (g:List Np.Span) (v:Value),xs[j]?=some ((x.host,sn.data.toList),g,v)->g.length<=500):=jq (λj g v hj=>by
      have h1:=HG.out.each ((x.host,sn.data.toList),g) (List.mem_map.2 ⟨_,gQ hj,rfl⟩);simp only at h1;rw[h1];unfold Np.gi;rw[List.length_map];refine yQ (List.length_filter_le _ _) ?_;rw[List.length_take,er.out]; omega)
     clear aA aW;go_wp2_with (first
      | (refine Tr _ rfl _ _ rfl (X1+1) X1 xs rfl HM6.out (Nat.lt_succ_self _) (x.host,sn.data.toList) rfl ?_; intro w7 j7 g7 v7 xs7 J0 RD Sq Bd; have ek:=jq J0; have yN:=jq RD; have Ly:=jq Sq; have HT7:=jq Bd; have y0':w7.cell? ⟨w5.heap.size,0,none⟩=some (.int .i64 x.frm):=(Bd.cell (by dsimp only; omega)).trans y0; have y1':w7.cell? ⟨w5.heap.size,1,none⟩=some (.int .i64 x.til):=(Bd.cell (by dsimp only; omega)).trans y1; have lM:w7.heap.size=w6.heap.size:=Bd.size; have tY:Hid (g7.length<=100000):=jq (by rcases J0 with ⟨_,hj⟩ | ⟨_,_,_,rfl,_⟩; exact yQ (ku.out _ _ _ hj) (by omega); simp); clear J0 RD Sq Bd)
      | (at_builtin; refine LL _ rfl _ _ rfl (X1+1) v7 g7 rfl (Ly.out.row _ (gQ yN.out)) w5.heap.size x.frm x.til (by simp[go_sem]) y0' y1' tY.out (by omega) ?_; intro v8 w8 eh cJ SO; have H8:=jq (And.intro eh (And.intro cJ SO)); have og:w7.heap.size<=w8.heap.size:=cJ.size; clear eh cJ SO)
      | (refine To _ w7 rfl _ _ _ rfl (X1+1) X1 xs7 Ly.out (Nat.lt_succ_self _) j7 (x.host,sn.data.toList) g7 (g7 ++ [⟨x.frm,x.til⟩]) v7 v8 yN.out H8.out.2.1 H8.out.1 H8.out.2.2 rfl rfl rfl ?_; intro w9 RO Sx; have H9:=jq (And.intro RO Sx); clear RO Sx))
     go_roundw
     case rel=>
      have e9:Below X1 wm w9:=((asZ.out.trans (HT7.out.below (bQ _))).grown H8.out.2.1 (by omega) (λq hq=>by have:=(World.ownsRow.lt (Ly.out.row _ (gQ yN.out)) q hq).1; omega)).trans (H9.out.2.below (bQ _));refine⟨k+1,_,by omega,by go_num,by rw[H9.out.2.size]; omega,jq e9,jq H9.out.1,jq ?_,JF⟩;rw[HT.out];have hc:=ek.out;rw[<-qd.out] at hc
      have:=Y0 (v':=v8) HG.out hc
      rw[qd.out] at this;exact this
     case measure=>simp[intOf] <;> omega
   ·have fe:Hid (l.take k=l):=jq (kQ (by rw[er.out]; omega));have AY:Hid (Np.GrpI (xs.map λx=>(x.1,x.2.1)) l):=jq (by have:=HG.out; rwa [fe.out] at this);have CZ:Hid (∀ c∈l,Np.CopyOk jb c):=jq (by have:=bZ.out; rwa [fe.out] at this);have k1:=dI.out.c1;clear HG bZ fe k0 k8;go_wp2_with (at_range; refine TI _ rfl _ rfl (X1+1) X1 xs rfl HM.out ?_; intro w10 QB Qr FT; have PZ:=jq QB; have ld:=jq (aO.out.trans (Qr.mono (by omega))); clear QB Qr);go_frame;obtain⟨I,hI⟩:∃ I,wr.heap.size=I:=⟨_,rfl⟩;rw[hI] at PZ FT;rw[hI];have bhJ:X1<I:=by omega
    have PM:Hid (∀ x∈xs,x.2.1.length<=500/\∀ t∈x.2.1,t.frm<t.til):=jq (λx hx=>by
     have h1:=AY.out.each (x.1,x.2.1) (List.mem_map.2 ⟨x,hx,rfl⟩);simp only at h1;rw[h1];refine⟨?_,λt ht=>?_⟩
     ·unfold Np.gi;rw[List.length_map];refine yQ (List.length_filter_le _ _) ?_;rw[er.out]; omega
     ·obtain⟨c,hc,rfl⟩:=List.mem_map.1 ht;exact (((jU.out c).1 (CZ.out c (List.mem_filter.1 hc).1)).2.1).2.1)
    have pt:Hid ((l.Pairwise λc d=>¬ Np.jN c d)↔∀ x∈xs,x.2.1.Pairwise λa b=>¬ Np.oO a b):=jq (AY.out.ok.trans ⟨λh x hx=>h (x.1,x.2.1) (List.mem_map.2 ⟨x,hx,rfl⟩),λh y hy=>by
     obtain⟨x,hx,rfl⟩:=List.mem_map.1 hy;exact h x hx⟩)
    have a6K:=Jb;clear dI HM aO HB hI dF k1;go_loopw [] (λwq=>∃ (seen:Array Nat) (xs':List fU),I<wq.heap.size/\Hid (Below X1 wm wq)/\Hid (RangeX (X1+1) X1 I xs' seen wq)/\Hid (xs'.length=xs.length/\∀ (j:Nat) (x':fU),xs'[j]?=some x'->∃ x:fU,xs[j]?=some x/\x'.2.1.Perm x.2.1)/\Hid (∀ (j:Nat) (x:fU),seen.contains j=true->xs[j]?=some x->x.2.1.Pairwise λa b=>¬ Np.oO a b)) (λwq=>wq.rangeLeft X1 I)
    case atStart=>exact⟨#[],xs,by omega,ld,PZ,jq ⟨rfl,λj x hx=>⟨x,hx,List.Perm.refl _⟩⟩,jq (by simp)⟩
    case round=>
     obtain⟨seen,xs',Lf,lP,yV,E3,Rm⟩:=hrel;have a2Z:=jq (Jb.out.keep lP.out I5);have k1:=a2Z.out.c1;go_wp2_with (at_next; refine TZ _ rfl _ rfl (X1+1) X1 I xs' seen rfl yV.out (λnT=>?_) (λj p g v w11 hj IM EV Jh hen=>?_))
     ·have rk:Hid (l.Pairwise λc d=>¬ Np.jN c d):=jq (pt.out.2 λx hx=>by
       obtain⟨j,hj,rfl⟩:=nQ.1 hx;exact Rm.out j _ (nT j (by rw[E3.out.1]; exact hj)) (aQ hj))
      have lp:=jq (J6.out.trans (lP.out.mono (by omega)));refine (Nf _ l (by rw[er.out]; omega) _ ((HD.out.keep fk lp.out).more kK (by omega))).mono ?_;rintro e w13 ⟨v13,rfl,CQ,B5⟩;obtain⟨A13,c13,rfl⟩:=cB.form CQ;have mb:=jq (lp.out.trans (B5.mono (by omega)));have I6:(Np.cH (l.map (·.zone.apex))).length<=500:=by
       have:=Np.vq (l.map (·.zone.apex))
       rw[List.length_map,er.out] at this;omega
      obtain⟨m13,Cd⟩:∃ m,(Np.cH (l.map (·.zone.apex))).length=m:=⟨_,rfl⟩;rw[Cd] at I6 |-;have d13:decide ((m13:Int)<=500)=true:=uQ (by omega);clear CQ B5 Cd;go_wp2_with fail;go_ret;exact⟨aj (by rw[<-HR.out]; exact (Np.bO ⟨⟨⟨IR.out,Np.eE.1 uR.out⟩,CZ.out⟩,rk.out⟩).symm),mb.out⟩
     ·obtain⟨xj,IT,Lj⟩:=E3.out.2 j _ hj;have hlg:g.length=xj.2.1.length:=Lj.length_eq;have hl5:=(PM.out xj (gQ IT)).1;have PL:=jq Lj;have EP:=jq IT;have HJ:=jq hj;have J2:=jq IM;have blK:=jq EV;have bgY:=jq Jh;have bnJ:I<w11.heap.size:=by rw[EV.size]; exact Lf
      have mR:Hid (Below X1 wm w11):=jq (lP.out.trans (EV.below (by omega)));refine (MA _ VC (enters_of func57 (by kernel_rfl) rfl) (X1+1) v g w11 (J2.out.mapX.row _ (gQ (by exact HJ.out))) (by omega)).mono ?_;rintro e w12 ⟨rfl,ys,hp,ur,F4,yR⟩;have aLK:Hid (RangeX (X1+1) X1 I (xs'.set j (p,ys,v)) (seen.push j) w12):=jq (J2.out.changed (Nat.lt_succ_self _) HJ.out yR F4);have uU:Hid (Np.Ir ys↔xj.2.1.Pairwise λa b=>¬ Np.oO a b):=jq (Np.Xu (hp.trans PL.out) ur (PM.out xj (gQ EP.out)).2);have QO:Hid (ys.Perm xj.2.1):=jq (hp.trans PL.out);have ra:∀ q,v.ownBlock=some q->X1+1<=q:=λq hq=>(World.ownsRow.lt (J2.out.mapX.row _ (gQ (by exact HJ.out))) q hq).1;have jR:Hid (Below X1 wm w12):=jq (mR.out.grown yR (by omega) (λq hq=>by have:=ra q hq; omega));have a2J:w12.rangeLeft X1 I<wr.rangeLeft X1 I:=by
       have e:w12.rangeLeft X1 I=w11.rangeLeft X1 I:=LR (yR.block X1 (by omega) (λe=>by have:=ra _ e.symm; omega)) (yR.block I (by omega) (λe=>by have:=IM.row _ (gQ hj); exact this e.symm));rw[e]; exact Jh
      have Ja:I<w12.heap.size:=by have:=yR.size; omega
      have QZ:Hid (SlR cV 2 w12 w12.heap.size v ys):=jq (aI.slr F4 (by have:=hp.length_eq; omega));have uX:Hid (¬ Np.Ir ys->r=false):=jq (λh=>by
       rw[<-HR.out];refine Np.aP λq=>h (uU.out.2 ?_);exact (pt.out.1 q.2) xj (gQ EP.out))
      have hy5:ys.length<=500:=by rw[QO.out.length_eq]; exact hl5
      obtain⟨Av,cv,rfl⟩:=aI.form F4;obtain⟨wo,rfl⟩:∃ wo,wo=wr:=⟨_,rfl⟩;clear hp ur F4 yR IM EV Jh hen hj IT Lj ra k1;obtain⟨ny,s6⟩:∃ ny,ys.length=ny:=⟨_,rfl⟩;rw[s6] at hy5 QZ;rw[s6];have zD:=jq s6;clear s6;go_wp2_with fail;go_loopw [9] (λi wi=>∃ q:Nat,1<=q/\(q<=ny\/q=1)/\i = .int .i64 q/\Hid (Below w12.heap.size w12 wi)/\Hid (∀ t (h:t+1<ys.length),t+1<q->ys[t].til<=ys[t+1].frm)) (λi _=>ny - (intOf i).toNat)
      case atStart=>exact⟨1,bQ _,.inr rfl,rfl,jq (vQ _ _),jq (λt h h2=>by omega)⟩
      case round=>
       obtain⟨q,IN,gO,rfl,cA,HQ⟩:=hrel;have ut:=cA.out.size;by_cases QI:q<ny
       ·obtain⟨m,hm⟩:∃ m,q=m+1:=⟨q - 1,by omega⟩;have s6:=zD.out;have zx:m<ys.length:=by omega
        have QJ:q<ys.length:=by omega
        obtain⟨a,ha⟩:∃ a,ys[m]?=some a:=⟨_,aQ zx⟩;obtain⟨b,hb⟩:∃ b,ys[q]?=some b:=⟨_,aQ QJ⟩;have EK:=QZ.out.keep fE cA.out;obtain⟨bb,oo,rfl⟩:=yj (k:=m) EK zx;obtain⟨cD,JR⟩:=vx EK ha;obtain⟨_,JH⟩:=vx EK hb;have a0:=JR.c0;have a1:=JR.c1;have b0:=JH.c0;have b1:=JH.c1;have bM:IntKind.i64.wrap ((q:Int) - 1)=(m:Int):=by rw[show (q:Int) - 1=m by omega]; simp[IntKind.wrap,IntKind.bits,IntKind.signed]; omega
        have i1:(0:Int)<=(q:Int):=by omega
        have i2:(q:Int)<(ny:Int):=by omega
        have i3:(0:Int)<=(m:Int):=by omega
        have i4:(m:Int)<(ny:Int):=by omega
        have i5:m<ny:=by omega
        have zN:Hid (b.frm<a.til->r=false):=jq (λab=>uX.out λnV=>by
         have h1:=nV m (by omega);obtain⟨e1,e2⟩:=cQ.1 ha;obtain⟨e3,e4⟩:=cQ.1 hb;subst hm;rw[e2,e4] at h1;omega)
        have Rc:Hid (¬ b.frm<a.til->∀ t (h:t+1<ys.length),t+1<q+1->ys[t].til<=ys[t+1].frm):=jq (λoW t h h2=>by
         by_cases e:t=m
         ·subst e;obtain⟨e1,e2⟩:=cQ.1 ha;obtain⟨e3,e4⟩:=cQ.1 hb;subst hm;rw[e2,e4]; omega
         ·exact HQ.out t h (by omega))
        obtain⟨af,au⟩:=a;obtain⟨bf,bu⟩:=b;dsimp only at a0 a1 b0 b1 zN Rc;clear ha hb EK JR JH hm s6 zx QJ cD;by_cases sj:bf<au
        ·have dd:decide (bf<au)=true:=uQ sj;have HX:=jq (zN.out sj);have lp:=jq (J6.out.trans ((jR.out.trans (cA.out.mono (by omega))).mono (by omega)));clear sj;go_wp2_with fail;go_quiet (fail);go_wp2_with fail;go_ret;exact⟨aj HX.out.symm,below_drewN lp.out _⟩
        ·have dd:decide (bf<au)=false:=tQ sj;have HX:=jq (Rc.out sj);clear sj;go_wp2_with fail;go_quiet (fail);go_wp2_with fail;go_roundw
         case rel=>exact⟨q+1,by omega,by omega,by go_num,jq (below_drewN cA.out _),HX⟩
         case measure=>simp[intOf] <;> omega
       ·have rk:Hid (xj.2.1.Pairwise λa b=>¬ Np.oO a b):=jq (uU.out.1 λt h=>HQ.out t h (by have:=zD.out; omega));go_wp2_with fail;go_roundw
        case rel=>
         refine⟨seen.push j,_,by omega,jq (jR.out.trans (cA.out.mono (by omega))),jq (aLK.out.keep cA.out),jq ⟨by rw[List.length_set]; exact E3.out.1,λj' x' hx'=>?_⟩,jq λj' x hs hx=>?_⟩
         ·rw[List.getElem?_set] at hx';split at hx'
          ·rename_i e; subst e;rw[Qb (cQ.1 HJ.out).1] at hx'
           cases hx'
           exact⟨xj,EP.out,QO.out⟩
          ·exact E3.out.2 j' x' hx'
         ·rw[Array.contains_push,Bool.or_eq_true] at hs;rcases hs with hs | hs
          ·exact Rm.out j' x hs hx
          ·have e:j'=j:=by simpa using hs
           subst e
           have:=EP.out
           rw[this] at hx
           cases hx
           exact rk.out
        case measure=>
         have e:=LR (w:=w12) (w':=wr) (r:=X1) (I:=I) (cA.out.block _ (by omega)) (cA.out.block _ (by omega));rw[e]; exact a2J
end
section
open Go.RowKit
theorem ON(l:List (List UInt8)):∀ k,(Np.eq (l.take k)).length<=k:=by
 intro k;have key:∀ (r o:List (List UInt8)),(r.foldl Np.oC o).length<=o.length+r.length:=by
  intro r
  induction r with
  | nil=>intro o; simp
  | cons c r ih=>
   intro o;have h1:(Np.oC o c).length<=o.length+1:=by
    unfold Np.oC
    cases o.getLast? with
    | none=>simp
    | some q=>dsimp only; split <;> simp
   have:=ih (Np.oC o c)
   rw[List.foldl_cons,List.length_cons]; omega
 have:=key (l.take k) []
 rw[List.length_take] at this;unfold Np.eq;simp at this;omega
theorem Hm(l:List (List UInt8)):∀ x∈Np.eq l,x∈l:=by
 have key:∀ (r o:List (List UInt8)),∀ x∈r.foldl Np.oC o,x∈o\/x∈r:=by
  intro r
  induction r with
  | nil=>intro o x hx; exact .inl hx
  | cons c r ih=>
   intro o x hx;rcases ih _ x hx with h | h
   ·unfold Np.oC at h
    cases hg:o.getLast? with
    | none=>rw[hg] at h; simp at h; exact .inr (by simp[h])
    | some q=>
     rw[hg] at h; dsimp only at h;split at h
     ·exact .inl h
     ·rcases List.mem_append.1 h with h | h
      ·exact .inl h
      ·simp at h; exact .inr (by simp[h])
   ·exact .inr (mQ _ h)
 intro x hx;rcases key l [] x hx with h | h
 ·cases h
 ·exact h
theorem qs{x:List UInt8}(h:Np.aG x=true):x.length<=60:=by
 unfold Np.aG at h;split at h
 ·rename_i e; rw[e]; decide
 ·split at h
  ·cases h
  ·omega
theorem TR(a:ByteArray)(v:Value)(l:List Np.Signed)(cu:l.length<=20000)(hv:∀ x∈l,Np.aG x.set.name=true)(w:World)(hd:SlR bK 5 w w.heap.size v l) :
 Calls prog 230 #[.agg #[.string a,v]] w (yx RTx 1 w (Np.eq (Np.cU a.data.toList l))):=by
 have HD:=jq hd;obtain⟨A,c,rfl,bC,bH⟩:=ag hd;have HW:Hid (∀ o,Below w.heap.size w (w.alloc o)):=jq (λo=>(vQ _ w).alloc (bQ _) _);have xz:Hid (∀ x∈Np.cU a.data.toList l,Np.aG x=true):=jq (λx hx=>by
  unfold Np.cU at hx;obtain⟨y,hy,rfl⟩:=List.mem_map.1 hx;exact hv y (List.mem_filter.1 hy).1)
 clear hd hv;go_enter func230,ntmps230;go_wp2_with fail;refine (Vp a _ l cu _ (HD.out.later aV bR (HW.out _))).mono ?_;rintro e w1 ⟨vc,rfl,Ji,aq⟩;have bI:w.heap.size<w1.heap.size:=by have:=aq.size; simp at this; omega
 have aF:=jq ((HW.out _).trans (aq.mono (by simp)));clear aq;have jE:(Np.cU a.data.toList l).length<=20000:=by
  unfold Np.cU;rw[List.length_map];exact yQ (List.length_filter_le _ _) cu
 generalize Np.cU a.data.toList l=cs at *;obtain⟨Ac,cc,rfl,uf,biY⟩:=ag Ji;have HC:=jq Ji;clear Ji;go_wp2_with fail;go_loopw [4,5] (λvo i wr=>∃ (k:Nat),k<=cs.length/\i = .int .i64 k/\Hid (Below w1.heap.size w1 wr)/\Hid (cB w1.heap.size wr vo (Np.eq (cs.take k)))) (λ_ i _=>cs.length - (intOf i).toNat)
 case atStart=>exact⟨0,jQ _,rfl,jq (vQ _ _),jq ⟨by simp,.inl ⟨rfl,rfl⟩⟩⟩
 case round=>
  obtain⟨k,hk,rfl,HB,HO⟩:=hrel;have an:=HB.out.size;have aD:=jq (aF.out.trans (HB.out.mono (by omega)));have wT:Hid (∀ x∈Np.eq (cs.take k),x.length<=140737488355328):=jq (λx hx=>by
   have:=qs (xz.out x (List.mem_of_mem_take (Hm _ x hx)))
   omega)
  have nf:Hid ((Np.eq (cs.take k)).length<=20000):=jq (by have:=ON cs k; omega);by_cases ab:k<cs.length
  ·obtain⟨x,ac⟩:∃ x,cs[k]?=some x:=⟨_,aQ ab⟩;obtain⟨b,o,sn,rfl,bg,az,bL,f0⟩:=rK (HC.out.keep jk HB.out) ac;have HVX:Hid (Np.aG x=true):=jq (xz.out x (gQ ac));have HT:Hid (Np.eq (cs.take (k+1))=Np.oC (Np.eq (cs.take k)) x):=jq (by
    obtain⟨hl,he⟩:=cQ.1 ac;rw[fQ hl,Np.Nv,he])
   have aS:=jq az;have bW:(0:Int)<=(k:Int):=by omega
   have bV:(k:Int)<(cs.length:Int):=by omega
   have aq:b<wr.heap.size:=by omega
   have kq:∀ (g:bE wr) (p:Addr),p.block<wr.heap.size->g.w.cell? p=wr.cell? p:=λg p h=>g.cell p h;have Cp:=jq (HO.out.slr (by have:=nf.out; omega) wT.out);have HOV:Hid (∀ y∈Np.eq (cs.take k),Np.aG y=true):=jq (λy hy=>xz.out y (List.mem_of_mem_take (Hm _ y hy)));clear ac az;generalize Np.eq (cs.take k)=out at *;obtain⟨Ao,co,rfl⟩:=HO.out.form;by_cases h0:out.length=0
   ·obtain rfl:out = []:=rQ h0;have lL:Hid (Np.eq (cs.take (k+1)) = [] ++ [x]):=jq (by rw[HT.out]; rfl);clear h0;go_wp2_with fail;refine en (by kernel_rfl) (by kernel_rfl) ?_
    repeat (go_big_quiet_step (fail))
    refine wpQuiet_nil ?_;rintro _ ⟨g,rfl⟩;have HG:=jq g.below;have iz:=g.size;have fg:g.w.cell? ⟨b,o+k,none⟩=some (.string sn):=(kq g _ aq).trans f0;have JY:=jq (HO.out.keep g.below);generalize g.w=w2 at *;go_wp2_with (at_builtin; refine xU _ rfl _ _ rfl w1.heap.size _ [] rfl (JY.out.alloc _) w2.heap.size sn.data.toList (by simp[go_sem]) (by simp[go_sem]) (by simp) (by simp; omega) ?_; intro v5 w5 eN aA; have H5:=jq (And.intro eN aA); clear eN aA);go_roundw
    case rel=>exact⟨k+1,by omega,by go_num,jq (((HB.out.trans (HG.out.mono (by omega))).alloc (by omega) _).trans H5.out.2),jq (by rw[lL.out,<-aS.out]; exact H5.out.1)⟩
    case measure=>simp[intOf] <;> omega
   ·obtain⟨n,hn⟩:∃ n,out.length=n+1:=⟨out.length - 1,by omega⟩;obtain⟨q,hq⟩:∃ q,out[n]?=some q:=⟨_,aQ (by omega)⟩;obtain⟨b2,o2,sq,rfl,zJ,ll,bcZ,g0⟩:=rK Cp.out hq;have bY:out.getLast?=some q:=by rw[List.getLast?_eq_getElem?,hn]; exact hq
    have lL:Hid (Np.eq (cs.take (k+1))=if Np.bG x q=true then out else out ++ [x]):=jq (by rw[HT.out,Np.oC,bY]);have QP:Hid (Np.aG q=true):=jq (HOV.out q (gQ hq));obtain⟨bu,Ky⟩:∃ bu,Np.bG x q=bu:=⟨_,rfl⟩;have bT:∀ g:bE wr,Calls prog 181 #[.string sn,.string sq] g.w λe w'=>e = .returned (.bool bu)/\Below g.w.heap.size g.w w':=λg=>by
     have gO:q≠[]:=λe=>by have:=QP.out; rw[e] at this; exact absurd this (by decide)
     rw[<-Ky,<-Np.Ak gO,<-aS.out,<-ll];have s1:=qs HVX.out;have s2:=qs QP.out;rw[<-aS.out,bn] at s1;rw[<-ll,bn] at s2;exact DF sn sq (by omega) (by omega) _
    have iC:=jq bT;have Cj:=jq Ky;obtain⟨N,hN⟩:∃ N,out.length=N:=⟨_,rfl⟩;have HN:=jq hN;have wJ:((N:Int) == 0)=false:=by rw[beq_eq_false_iff_ne]; omega
    have al:IntKind.i64.wrap ((N:Int) - 1)=(n:Int):=by rw[IntWalk.i64_in _ (by have:=nf.out; omega)]; omega
    have nj:(0:Int)<=(n:Int):=by omega
    have sK:(n:Int)<(N:Int):=by omega
    have RB:Hid (cB w1.heap.size wr (.slice (some ⟨b2,o2,none⟩) N co) out):=jq (by rw[<-hN]; exact HO.out);rw[hN];clear hn hq ll bY bT Ky h0 hN
    cases bu with
    | true=>
     have dg:=jq (lL.out.trans (Qb Cj.out));go_wp2_with fail;refine en (by kernel_rfl) (by kernel_rfl) ?_
     repeat (go_big_quiet_step ((go_at_call 181; exact Calls.grow_of (iC.out _))))
     refine wpQuiet_nil ?_;rintro _ ⟨g,rfl⟩;go_wp2_with fail;go_roundw
     case rel=>exact⟨k+1,by omega,by go_num,jq (HB.out.trans (g.below.mono (by omega))),jq (by rw[dg.out]; exact RB.out.keep g.below)⟩
     case measure=>simp[intOf] <;> omega
    | false=>
     have dg:=jq (lL.out.trans (Qc (by rw[Cj.out]; simp)));go_wp2_with fail;refine en (by kernel_rfl) (by kernel_rfl) ?_
     repeat (go_big_quiet_step ((go_at_call 181; exact Calls.grow_of (iC.out _))))
     refine wpQuiet_nil ?_;rintro _ ⟨g,rfl⟩;have HG:=jq g.below;have iz:=g.size;have fg:g.w.cell? ⟨b,o+k,none⟩=some (.string sn):=(kq g _ aq).trans f0;have JY:=jq (RB.out.keep g.below);clear kq;generalize g.w=w2 at *;go_wp2_with (at_builtin; refine xU _ rfl _ _ rfl w1.heap.size _ out rfl (JY.out.alloc _) w2.heap.size sn.data.toList (by simp[go_sem]) (by simp[go_sem]) (by have:=nf.out; omega) (by simp; omega) ?_; intro v5 w5 eN aA; have H5:=jq (And.intro eN aA); clear eN aA);go_roundw
     case rel=>exact⟨k+1,by omega,by go_num,jq (((HB.out.trans (HG.out.mono (by omega))).alloc (by omega) _).trans H5.out.2),jq (by rw[dg.out,<-aS.out]; exact H5.out.1)⟩
     case measure=>simp[intOf] <;> omega
  ·have HE:Hid (cs.take k=cs):=jq (kQ (by omega));go_wp2_with fail;go_ret;refine⟨_,rfl,?_,aD.out⟩;have h1:=HO.out;have h2:=nf.out;have h3:=wT.out;rw[HE.out] at h1 h2 h3;exact h1.slr (by omega) h3
end
end Go.Proofs.YtbfbobfbgabjiaaGreatDoor
