/- Parts of the proof. No condition. -/
import Derived.Test.YtfnopgdcaanaiaaGreatDoorW29
import Derived.Test.YtfnopgdcaanaiaaGreatDoorW30
import Derived.Test.YtfnopgdcaanaiaaGreatDoorW31
set_option linter.all false
set_option maxRecDepth 100000
set_option maxHeartbeats 8000000
namespace Go.Proofs.YtfnopgdcaanaiaaGreatDoor
open Go.Proofs.Tryz
section
open Go.RowKit
theorem Np.Tq{l:List Np.Held}{t:Int}{c:List Np.Ent22}{k:Nat}{x:Np.Ent22}(hx:c[k]?=some x):Np.jf l (c.take (k+1)) t=(Np.jf l (c.take k) t&&Np.iS l t x):=by
 obtain⟨hl,he⟩:=cQ.1 hx;unfold Np.jf;rw[fQ hl,he,List.all_append,List.all_cons,List.all_nil,Bool.and_true]
theorem Np.Y4{h:Np.Hist}{z:List UInt8}{s:Np.Signed}{t:Int}(hm:Np.mL (Np.bM h) z s t=true):s∈Np.fe (Np.bM h) s.set.name s.set.type t:=by
 unfold Np.mL at hm;rw[List.any_eq_true] at hm;obtain⟨x,hx,he⟩:=hm;rw[Bool.and_eq_true,Bool.and_eq_true,Qa,Qa] at he;unfold Np.fe;rw[Np.tS,List.mem_map];refine⟨x,List.mem_filter.2 ⟨hx,?_⟩,he.2.1⟩;rw[he.2.1,uQ rfl,he.2.2];simp
theorem Tryz.infoEntryA:(prog.info? 83).map (λi=>(i.zero,i.size,i.bytes))=some (some (.agg #[.string ⟨#[]⟩,.int .i64 0,.int .i64 0,.slice none 0 0,.slice none 0 0,.string ⟨#[]⟩,.int .i64 0]),7,104):=by kernel_rfl
theorem jV:gP cH:=λ_ _ _ _ _ _ hM ⟨s,z,dv,sv,h1,h2,h3,h4,h5,h6,h7⟩=>⟨s,z,dv,sv,h1,h2,h3,h4,h5.sans yu hM,h6.sans yz hM,h7⟩
theorem wI:∀ (w:World) (B:Nat) (r:List Value) (y:Np.Ent22),cH w B r y->∀ u∈r,u.oneCell'=true:=λw B r y ⟨s,z,dv,sv,_,_,_,_,h5,h6,h7⟩ u hu=>by
 obtain⟨A,c,rfl,_⟩:=ak h5;obtain⟨A',c',rfl,_⟩:=ak h6;rw[h7] at hu;simp only[List.mem_cons,Qh,or_false] at hu;rcases hu with rfl | rfl | rfl | rfl | rfl | rfl | rfl <;> rfl
theorem aqZ(cb co cn ck k:Nat)(hk:k+1<=cn){w0:World}{l:List Np.Ent22}(hc:cn<=ck)(h:SlR cH 7 w0 w0.heap.size (.slice (some ⟨cb,co,none⟩) cn ck) l)(hl:l.length=cn):∃ sA,(if ck=k+1 then (some ⟨cb,co,none⟩:Option Addr) else some ⟨cb,co+(k+1) * 7,none⟩)=sA/\SlR cH 7 w0 w0.heap.size (.slice sA (cn - (k+1)) (ck - (k+1))) (l.drop (k+1)):=by
 by_cases hq:ck=k+1
 ·refine⟨some ⟨cb,co,none⟩,Qb hq,?_⟩;have h0:l.drop (k+1) = []:=List.drop_eq_nil_of_le (by omega);rw[h0];exact⟨some ⟨cb,co,none⟩,ck - (k+1),by rw[show cn - (k+1)=0 by omega];rfl,by simp,by simp,λi x hx=>by simp at hx⟩
 ·refine⟨some ⟨cb,co+(k+1) * 7,none⟩,Qc hq,?_⟩;obtain⟨A',c',hv,hc',hl',he⟩:=h
  cases hv
  refine⟨some ⟨cb,co+(k+1) * 7,none⟩,ck - (k+1),by rw[List.length_drop,hl],by rw[List.length_drop,hl];omega,by rw[List.length_drop];omega,λi x hx=>?_⟩;rw[List.getElem?_drop] at hx;obtain⟨b,o,e,hA,h1,h2,h3,h5⟩:=he (k+1+i) x hx
  cases hA
  refine⟨_,_,e,rfl,h1,h2,?_,h5⟩;rw[show co+(k+1) * 7+i * 7=co+(k+1+i) * 7 by rw[Nat.add_assoc,<-Nat.add_mul]];exact h3
theorem ZK{w:World}{cb co cn ck k:Nat}{l:List Np.Ent22}(h:SlR cH 7 w w.heap.size (.slice (some ⟨cb,co,none⟩) cn ck) l)(hl:l.length=cn)(hk:k<=cn):SlR cH 7 w w.heap.size (.slice (some ⟨cb,co,none⟩) k ck) (l.take k):=by
 obtain⟨A',c',hv,hc,hl',he⟩:=h
 cases hv
 refine⟨some ⟨cb,co,none⟩,ck,by rw[List.length_take,show min k l.length=k by omega],by rw[List.length_take];omega,by rw[List.length_take];omega,λi x hx=>he i x ?_⟩;rw[List.getElem?_take] at hx;split at hx
 ·exact hx
 ·cases hx
theorem Np.YY(c:List Np.Ent22)(k:Nat):(c.take k++c.drop (k+1)).Sublist c:=by
 have h1:(c.take k++c.drop (k+1)).Sublist (c.take k++c.drop k):=(List.Sublist.refl _).append (by rw[<-List.drop_drop];exact List.drop_sublist _ _);rwa [List.take_append_drop] at h1
def bI(X cb co cn ck k m mc:Nat)(sA:Option Addr)(e0:Value)(e5:Value)(e11:Value)(e13:Value)(i:Nat):Value:=[e0,.pointer (some ⟨X+1,0,none⟩),.slice (some ⟨cb,co,none⟩) cn ck,.int .i64 (k:Nat),.slice (some ⟨cb,co,none⟩) k ck,e5,.pointer (some ⟨X+1,0,none⟩),.slice (some ⟨cb,co,none⟩) cn ck,.int .i64 (k:Nat),.int .i64 ((k:Int)+1),.slice sA m mc,e11,.agg #[e11],e13,undef].getD i undef
def ef(i:Nat):Nat:=[140,141,142,143,144,145,146,147,148,149,150,151,152,21,0].getD i 0
def WS:List Nat:=[1,2,3,4,6,7,8,9,10,12,0,5,11,13].map ef
theorem eL:∀ i∈[1,2,3,4,6,7,8,9,10,12,0,5,11,13],ef i<169/\ef i∈WS:=by decide
theorem fP:∀ i∈[1,2,3,4,6,7,8,9,10,12,0,5,11,13],∀ j∈[1,2,3,4,6,7,8,9,10,12,0,5,11,13],j≠i->ef i≠ef j:=by decide
theorem Tr(e:List Value)(h:Np.Hist)(v:Value)(l:List Np.Ent22)(t wh:Int)(XS:0<=wh/\wh<256)(w:World)(hV:iO w.heap.size w)(hh:iz w w.heap.size e h)(hs:Np.kR h)(hd:SlR cH 7 w w.heap.size v l)(BA:Np.Gx l):Calls prog 8 #[.agg e.toArray,.agg #[v],.int .i64 t,.int .u8 wh] w λe w'=>e = .returned (.bool true)/\Below w.heap.size w w':=by
 obtain⟨A1,n1,c1,A2,n2,c2,s,ty,lf,A3,n3,c3,A4,n4,c4,dr,st,rfl,bU,cV,ay,Ie,Hx⟩:=yw hh;have jd:=jq hd;obtain⟨cA,ck,rfl,Nc,_⟩:=ak hd;obtain⟨cn,qC⟩:=aCQ l.length;rw[qC] at jd Nc |-;have mW:=jq qC;have nh:=jq BA;have HS:=jq hs;obtain⟨X,hX⟩:=aCQ w.heap.size;obtain⟨w1,ah⟩:=aCQ ((w.alloc (.cells #[.slice A1 n1 c1,.slice A2 n2 c2,.string s,.int .i64 ty,.int .i64 lf,.slice A3 n3 c3,.slice A4 n4 c4,.int .i64 dr,.int .i64 st] 29)).alloc (.cells #[.slice cA cn ck] 76));have bk:w1.heap.size=X+2:=by rw[<-ah,<-hX];simp
 have hb:Below w.heap.size w w1:=by rw[<-ah];exact ((vQ _ _).alloc (bQ _) _).alloc (by simp) _
 have az:=jq hb;have fm:=jq (hV.next hb);have Cl:Hid (iz w1 w1.heap.size [.slice A1 n1 c1,.slice A2 n2 c2,.string s,.int .i64 ty,.int .i64 lf,.slice A3 n3 c3,.slice A4 n4 c4,.int .i64 dr,.int .i64 st] h):=jq (o4 _ _ _ _ _ (oZ _ _ _ _ _ hh hb) hb.size);have qc:Hid (SlR cH 7 w1 w1.heap.size (.slice cA cn ck) l):=jq (jd.out.later eR ir hb);have aM:Hid (lu w1 X [.slice A1 n1 c1,.slice A2 n2 c2,.string s,.int .i64 ty,.int .i64 lf,.slice A3 n3 c3,.slice A4 n4 c4,.int .i64 dr,.int .i64 st]):=jq (by
  rw[<-ah,<-hX];exact (jB [.slice A1 n1 c1,.slice A2 n2 c2,.string s,.int .i64 ty,.int .i64 lf,.slice A3 n3 c3,.slice A4 n4 c4,.int .i64 dr,.int .i64 st] 29 rfl rfl).keep ((vQ _ _).alloc (bQ _) _) (by simp))
 have q0:w1.cell? ⟨X+1,0,none⟩=some (.slice cA cn ck):=by rw[<-ah,<-hX];simp[go_sem]
 clear hb hV hh hs bU cV ay Ie Hx hd BA qC;have k0:=aM.out 0 _ rfl;have k1:=aM.out 1 _ rfl;have k2:=aM.out 2 _ rfl;have k3:=aM.out 3 _ rfl;have k4:=aM.out 4 _ rfl;have k5:=aM.out 5 _ rfl;have k6:=aM.out 6 _ rfl;have k7:=aM.out 7 _ rfl;have k8:=aM.out 8 _ rfl;go_enter func8,ntmps8;go_wp2_with fail;clear ah;refine (Wf w1 fm.out).mono ?_;rintro e w2 ⟨rfl,hb⟩;have aK:=hb.size;have aq:=jq hb;have ib:=jq (fm.out.next hb);have Cm:Hid (iz w2 w2.heap.size [.slice A1 n1 c1,.slice A2 n2 c2,.string s,.int .i64 ty,.int .i64 lf,.slice A3 n3 c3,.slice A4 n4 c4,.int .i64 dr,.int .i64 st] h):=jq (o4 _ _ _ _ _ (oZ _ _ _ _ _ Cl.out hb) hb.size);have bd:=jq (aM.out.keep hb (by omega));replace q0:=aBX hb q0;clear hb;replace k0:=bd.out 0 _ rfl;replace k1:=bd.out 1 _ rfl;replace k2:=bd.out 2 _ rfl;replace k3:=bd.out 3 _ rfl;replace k4:=bd.out 4 _ rfl;replace k5:=bd.out 5 _ rfl;replace k6:=bd.out 6 _ rfl;replace k7:=bd.out 7 _ rfl;replace k8:=bd.out 8 _ rfl;go_wp2_with fail;refine (atK _ h w2 Cm.out).mono ?_;rintro e w3 ⟨rfl,hb⟩;have eF:=hb.size;have ai:=jq hb;have kJ:=jq (ib.out.next hb);have Kn:Hid (iz w3 w3.heap.size [.slice A1 n1 c1,.slice A2 n2 c2,.string s,.int .i64 ty,.int .i64 lf,.slice A3 n3 c3,.slice A4 n4 c4,.int .i64 dr,.int .i64 st] h):=jq (o4 _ _ _ _ _ (oZ _ _ _ _ _ Cm.out hb) hb.size);have bg:=jq (bd.out.keep hb (by omega));replace q0:=aBX hb q0;clear hb;replace k0:=bg.out 0 _ rfl;replace k1:=bg.out 1 _ rfl;replace k2:=bg.out 2 _ rfl;replace k3:=bg.out 3 _ rfl;replace k4:=bg.out 4 _ rfl;replace k5:=bg.out 5 _ rfl;replace k6:=bg.out 6 _ rfl;replace k7:=bg.out 7 _ rfl;replace k8:=bg.out 8 _ rfl;by_cases hU:Np.CM h
 case neg=>
  rw[Np.aC hU];have HE:=jq ((az.out.trans ((aq.out.trans (ai.out.aDQ)).aDQ)));go_wp2_with fail;exact bodyPost_ret (v:=.bool true) (by simp[results,results8,go_sem]) rfl ⟨rfl,HE.out⟩
 case pos=>
  rw[Np.ba hU];have rc:Hid (Np.pd h):=jq hU.1;have gq:Hid (Np.VHist h):=jq hU.2;have sJ:Hid (j8 w3 [.slice A1 n1 c1,.slice A2 n2 c2,.string s,.int .i64 ty,.int .i64 lf,.slice A3 n3 c3,.slice A4 n4 c4,.int .i64 dr,.int .i64 st] h):=jq ⟨Kn.out,hU.1.use,HS.out⟩;clear hU;go_wp2_with fail;refine (UP _ l w3 (qc.out.later eR ir (aq.out.trans (ai.out.aDQ)))).mono ?_;rintro e w4 ⟨rfl,hb⟩;have fd:=hb.size;have am:=jq hb;have xy:=jq (kJ.out.next hb);have RR:Hid (iz w4 w4.heap.size [.slice A1 n1 c1,.slice A2 n2 c2,.string s,.int .i64 ty,.int .i64 lf,.slice A3 n3 c3,.slice A4 n4 c4,.int .i64 dr,.int .i64 st] h):=jq (o4 _ _ _ _ _ (oZ _ _ _ _ _ Kn.out hb) hb.size);have el:=jq (bg.out.keep hb (by omega));have Kp:=jq (sJ.out.keep hb);replace q0:=aBX hb q0;clear hb;replace k0:=el.out 0 _ rfl;replace k1:=el.out 1 _ rfl;replace k2:=el.out 2 _ rfl;replace k3:=el.out 3 _ rfl;replace k4:=el.out 4 _ rfl;replace k5:=el.out 5 _ rfl;replace k6:=el.out 6 _ rfl;replace k7:=el.out 7 _ rfl;replace k8:=el.out 8 _ rfl;by_cases Dk:Np.EY l
  case neg=>
   rw[Np.aC Dk];have HE:=jq ((az.out.trans ((aq.out.trans ((ai.out.trans (am.out.aDQ)).aDQ)).aDQ)));go_wp2_with fail;exact bodyPost_ret (v:=.bool true) (by simp[results,results8,go_sem]) rfl ⟨rfl,HE.out⟩
  case pos=>
   rw[Np.ba Dk];have HFC:=jq Dk;clear Dk;go_wp2_with fail;refine (abQ _ l w4 (qc.out.later eR ir (aq.out.trans ((ai.out.trans (am.out.aDQ)).aDQ)))).mono ?_;rintro e w5 ⟨rfl,hb⟩;have iJ:=hb.size;have aP:=jq hb;have Gh:=jq (xy.out.next hb);have RS:Hid (iz w5 w5.heap.size [.slice A1 n1 c1,.slice A2 n2 c2,.string s,.int .i64 ty,.int .i64 lf,.slice A3 n3 c3,.slice A4 n4 c4,.int .i64 dr,.int .i64 st] h):=jq (o4 _ _ _ _ _ (oZ _ _ _ _ _ RR.out hb) hb.size);have nV:=jq (el.out.keep hb (by omega));have RX:=jq (Kp.out.keep hb);replace q0:=aBX hb q0;clear hb;replace k0:=nV.out 0 _ rfl;replace k1:=nV.out 1 _ rfl;replace k2:=nV.out 2 _ rfl;replace k3:=nV.out 3 _ rfl;replace k4:=nV.out 4 _ rfl;replace k5:=nV.out 5 _ rfl;replace k6:=nV.out 6 _ rfl;replace k7:=nV.out 7 _ rfl;replace k8:=nV.out 8 _ rfl;by_cases Dt:Np.VCache l
   case neg=>
    rw[Np.aC Dt];have HE:=jq ((az.out.trans ((aq.out.trans ((ai.out.trans ((am.out.trans (aP.out.aDQ)).aDQ)).aDQ)).aDQ)));go_wp2_with fail;exact bodyPost_ret (v:=.bool true) (by simp[results,results8,go_sem]) rfl ⟨rfl,HE.out⟩
   case pos=>
    rw[Np.ba Dt];have lF:=jq Dt;clear Dt;go_wp2_with fail;refine (ahJ t w5).mono ?_;rintro e w6 ⟨rfl,hb⟩;have iq:=hb.size;have cm:=jq hb;have CC:=jq (Gh.out.next hb);have RT:Hid (iz w6 w6.heap.size [.slice A1 n1 c1,.slice A2 n2 c2,.string s,.int .i64 ty,.int .i64 lf,.slice A3 n3 c3,.slice A4 n4 c4,.int .i64 dr,.int .i64 st] h):=jq (o4 _ _ _ _ _ (oZ _ _ _ _ _ RS.out hb) hb.size);have nW:=jq (nV.out.keep hb (by omega));have Kq:=jq (RX.out.keep hb);replace q0:=aBX hb q0;clear hb;replace k0:=nW.out 0 _ rfl;replace k1:=nW.out 1 _ rfl;replace k2:=nW.out 2 _ rfl;replace k3:=nW.out 3 _ rfl;replace k4:=nW.out 4 _ rfl;replace k5:=nW.out 5 _ rfl;replace k6:=nW.out 6 _ rfl;replace k7:=nW.out 7 _ rfl;replace k8:=nW.out 8 _ rfl;by_cases Ds:Np.xF t
    case neg=>
     rw[Np.aC Ds];have HE:=jq ((az.out.trans ((aq.out.trans ((ai.out.trans ((am.out.trans ((aP.out.trans (cm.out.aDQ)).aDQ)).aDQ)).aDQ)).aDQ)));go_wp2_with fail;exact bodyPost_ret (v:=.bool true) (by simp[results,results8,go_sem]) rfl ⟨rfl,HE.out⟩
    case pos=>
     rw[Np.ba Ds];have xx:=jq Ds;clear Ds;have Wb:cn<=400:=by rw[<-mW.out];exact lF.out.few
     obtain⟨ab,fY⟩:=aCQ (Np.jf (Np.bM h) l t);have sD:=jq fY;clear fY;go_wp2_with fail;refine (zW _ h _ l t w6 CC.out Kq.out (qc.out.later eR ir (aq.out.trans ((ai.out.trans ((am.out.trans ((aP.out.trans (cm.out.aDQ)).aDQ)).aDQ)).aDQ))) nh.out).mono ?_;rw[Np.xG ⟨gq.out,lF.out,xx.out⟩];dsimp only;rw[sD.out];rintro e w7 ⟨rfl,hb⟩;have nN:=hb.size;have du:=jq hb;have CD:=jq (CC.out.next hb);have RU:Hid (iz w7 w7.heap.size [.slice A1 n1 c1,.slice A2 n2 c2,.string s,.int .i64 ty,.int .i64 lf,.slice A3 n3 c3,.slice A4 n4 c4,.int .i64 dr,.int .i64 st] h):=jq (o4 _ _ _ _ _ (oZ _ _ _ _ _ RT.out hb) hb.size);have eU:=jq (nW.out.keep hb (by omega));have Kr:=jq (Kq.out.keep hb);replace q0:=aBX hb q0;clear hb;replace k0:=eU.out 0 _ rfl;replace k1:=eU.out 1 _ rfl;replace k2:=eU.out 2 _ rfl;replace k3:=eU.out 3 _ rfl;replace k4:=eU.out 4 _ rfl;replace k5:=eU.out 5 _ rfl;replace k6:=eU.out 6 _ rfl;replace k7:=eU.out 7 _ rfl;replace k8:=eU.out 8 _ rfl;go_wp2_with fail;refine (zV _ h w7 CD.out Kr.out).mono ?_;rw[Np.zT gq.out];rintro e w8 ⟨Al,nl,lc,rfl,hl,hr,hb⟩;have SB:=jq (hr.all qU);clear hl hr;have qL:=hb.size;have cr:=jq hb;have CE:=jq (CD.out.next hb);have HH8:Hid (iz w8 w8.heap.size [.slice A1 n1 c1,.slice A2 n2 c2,.string s,.int .i64 ty,.int .i64 lf,.slice A3 n3 c3,.slice A4 n4 c4,.int .i64 dr,.int .i64 st] h):=jq (o4 _ _ _ _ _ (oZ _ _ _ _ _ RU.out hb) hb.size);have fk:=jq (eU.out.keep hb (by omega));have Fx:=jq (Kr.out.keep hb);replace q0:=aBX hb q0;clear hb;replace k0:=fk.out 0 _ rfl;replace k1:=fk.out 1 _ rfl;replace k2:=fk.out 2 _ rfl;replace k3:=fk.out 3 _ rfl;replace k4:=fk.out 4 _ rfl;replace k5:=fk.out 5 _ rfl;replace k6:=fk.out 6 _ rfl;replace k7:=fk.out 7 _ rfl;replace k8:=fk.out 8 _ rfl;obtain⟨wz,mF⟩:=aCY w8;have qa:Hid (Below w.heap.size w wz):=jq (by rw[mF];exact (az.out.trans ((aq.out.trans ((ai.out.trans ((am.out.trans ((aP.out.trans ((cm.out.trans ((du.out.trans (cr.out.aDQ)).aDQ)).aDQ)).aDQ)).aDQ)).aDQ)).aDQ)));have Cj:Hid (SlR cH 7 wz wz.heap.size (.slice cA cn ck) l):=jq (by rw[mF];exact (qc.out.later eR ir (aq.out.trans ((ai.out.trans ((am.out.trans ((aP.out.trans ((cm.out.trans ((du.out.trans (cr.out.aDQ)).aDQ)).aDQ)).aDQ)).aDQ)).aDQ))));have Sx:Hid (wz.cell? ⟨X+1,0,none⟩=some (.slice cA cn ck)):=jq (by rw[mF];exact q0);have Yf:X+1<wz.heap.size:=by rw[mF];omega
     have iN:Hid (iO wz.heap.size wz):=jq (by rw[mF];exact CE.out);have y7:Hid (j8 wz [.slice A1 n1 c1,.slice A2 n2 c2,.string s,.int .i64 ty,.int .i64 lf,.slice A3 n3 c3,.slice A4 n4 c4,.int .i64 dr,.int .i64 st] h):=jq (by rw[mF];exact Fx.out);have cF:Hid (lu wz X [.slice A1 n1 c1,.slice A2 n2 c2,.string s,.int .i64 ty,.int .i64 lf,.slice A3 n3 c3,.slice A4 n4 c4,.int .i64 dr,.int .i64 st]):=jq (by rw[mF];exact fk.out);have ix:Hid (SlR ie 8 wz wz.heap.size (.slice Al nl lc) (Np.bM h)):=jq (by rw[mF];exact SB.out);go_wp2_with fail
     try rw[<-mF]
     clear mF k0 k1 k2 k3 k4 k5 k6 k7 k8 q0;go_loopw [14,63] (λvo i wr=>∃ k:Nat,k<=cn/\i = .int .i64 k/\Hid (vo = .bool (Np.jf (Np.bM h) (l.take k) t))/\Hid (Below wz.heap.size wz wr)) (λ_ i _=>cn - (intOf i).toNat)
     case atStart=>exact⟨0,jQ _,rfl,jq rfl,jq (vQ _ _)⟩
     case round=>
      obtain⟨k,hk,rfl,Li,HB⟩:=hrel;have an:=HB.out.size;obtain⟨wt,IW⟩:=aCQ (Np.jf (Np.bM h) (l.take k) t);obtain rfl:=Li.out;rw[IW];have CF:=jq IW;clear Li IW;by_cases aa:k<cn
      case pos=>
       obtain⟨x,ac⟩:∃ x,l[k]?=some x:=⟨_,aQ (by rw[mW.out];exact aa)⟩;obtain⟨b,o,zs,ez,dA,dn,dc,gA,gn,gc,rfl,bD,ar,ip,gJ,gK,aO,nD,jI,nC,hce⟩:=uT (Cj.out.keep eR HB.out) ac;have Ct:=jq (lF.out.each x (gQ ac));have zw:=jq (Np.Tq (l:=Np.bM h) (t:=t) ac);have nU:Hid (ab=true->Np.iS (Np.bM h) t x=true):=jq (λhb=>by
        have h1:=sD.out;rw[hb] at h1;unfold Np.jf at h1;rw[List.all_eq_true] at h1;exact h1 x (gQ ac))
       have f0:=hce 0 _ rfl;have f1:=hce 1 _ rfl;have f2:=hce 2 _ rfl;have f3:=hce 3 _ rfl;have f4:=hce 4 _ rfl;have f5:=hce 5 _ rfl;have f6:=hce 6 _ rfl;simp only[Nat.add_zero] at f0;have uA:=jq (And.intro ar gJ);have fJ:=jq (And.intro ip gK);have jy:=jq (aO.more dt an);have l6:=jq (nD.more eu an);have j5:=jq jI;have bV:(0:Int)<=(k:Int):=by omega
       have bT:(k:Int)<(cn:Int):=by omega
       obtain⟨til,mE⟩:=aCQ x.til;have Lb:=jq mE;rw[mE] at f6;obtain⟨E,hE⟩:=aCQ wr.heap.size;obtain⟨w7,gV⟩:=aCQ (wr.alloc (.cells #[.string zs,.int .i64 x.signed.set.type,.int .i64 x.signed.set.life,.slice dA dn dc,.slice gA gn gc,.string ez,.int .i64 til] 83));have ep:Below wr.heap.size wr w7:=by rw[<-gV];exact (vQ _ _).alloc (bQ _) _
       have nN:w7.heap.size=E+1:=by rw[<-gV,<-hE];simp
       have eU:=jq (jB _ _ hE gV);have cr:=aBY HB ep;have Fk:=jq ep;have q0:=eU.out 0 _ rfl;have q1:=eU.out 1 _ rfl;have q2:=eU.out 2 _ rfl;have q3:=eU.out 3 _ rfl;have q4:=eU.out 4 _ rfl;have q5:=eU.out 5 _ rfl;have q6:=eU.out 6 _ rfl;clear ac ar ip gJ gK aO nD jI nC hce mE ep;by_cases rC:dn=0
       case pos=>
        subst rC;have qg:Hid (Np.iS (Np.bM h) t x=true):=jq (by
         unfold Np.iS;rw[rQ j5.out];rfl)
        have bO:Hid (wt=Np.jf (Np.bM h) (l.take (k+1)) t):=jq (by rw[zw.out,CF.out,qg.out,Bool.and_true]);go_wp2_with fail
        try rw[gV]
        clear gV f0 f1 f2 f3 f4 f5 f6;go_roundw
        case rel=>exact⟨k+1,by omega,by go_num,jq (by rw[<-bO.out]),cr⟩
        case measure=>simp[intOf] <;> omega
       case neg=>
        have n1:((dn:Int) == 0)=false:=by simpa using rC
        have n2:(dn == 0)=false:=by simpa using rC
        have n3:decide ((dn:Int)=0)=false:=aDJ;have od:Hid (x.signed.set.data≠[]):=jq (λh=>rC (by rw[<-j5.out,h];rfl));clear rC;by_cases nL:til<=t
        case pos=>
         have iY:decide (til<=t)=true:=uQ nL;have qg:Hid (Np.iS (Np.bM h) t x=true):=jq (by
          unfold Np.iS;rw[Lb.out,iY];simp)
         have bO:Hid (wt=Np.jf (Np.bM h) (l.take (k+1)) t):=jq (by rw[zw.out,CF.out,qg.out,Bool.and_true]);clear nL;go_wp2_with fail
         try rw[gV]
         clear gV f0 f1 f2 f3 f4 f5 f6;go_roundw
         case rel=>exact⟨k+1,by omega,by go_num,jq (by rw[<-bO.out]),cr⟩
         case measure=>simp[intOf] <;> omega
        case neg=>
         have iY:decide (til<=t)=false:=tQ nL;obtain⟨mb,Iq⟩:=aCQ (Np.mL (Np.bM h) x.zone x.signed t);have KC:=jq Iq;have qg:Hid (Np.iS (Np.bM h) t x=mb):=jq (by
          unfold Np.iS;rw[Lb.out,tQ nL,Iq]
          cases hdd:x.signed.set.data with
          | nil=>exact absurd hdd od.out
          | cons=>rfl)
         have bO:Hid ((wt&&mb)=Np.jf (Np.bM h) (l.take (k+1)) t):=jq (by rw[zw.out,CF.out,qg.out]);have So:Hid (Np.zM h x.signed.set.name x.signed.set.type t):=jq ⟨gq.out,(by
          rcases Ct.out.kind with k | k
          ·exact absurd k.1 od.out
          ·obtain⟨h1,h2,h3,_⟩:=Np.qY k.2.1;exact⟨h1,h2,h3⟩),xx.out⟩
         clear nL Iq;have k0:=(cF.out.keep cr.out (by omega)) 0 _ rfl;have k1:=(cF.out.keep cr.out (by omega)) 1 _ rfl;have k2:=(cF.out.keep cr.out (by omega)) 2 _ rfl;have k3:=(cF.out.keep cr.out (by omega)) 3 _ rfl;have k4:=(cF.out.keep cr.out (by omega)) 4 _ rfl;have k5:=(cF.out.keep cr.out (by omega)) 5 _ rfl;have k6:=(cF.out.keep cr.out (by omega)) 6 _ rfl;have k7:=(cF.out.keep cr.out (by omega)) 7 _ rfl;have k8:=(cF.out.keep cr.out (by omega)) 8 _ rfl;go_wp2_with fail
         try rw[gV]
         clear gV f0 f1 f2 f3 f4 f5 f6 k0 k1 k2 k3 k4 k5 k6 k7 k8;refine (CW _ h zs fJ.out.1 x.signed.set.type t w7 (iN.out.next cr.out) (y7.out.keep cr.out)).mono ?_;rw[uA.out.1,Np.Jk So.out];rintro e w9 ⟨Ap,np,cp,rfl,tm,vK,fN⟩;have W9:np<=1000000:=by
          have h1:=Np.Po (Np.bM h) x.signed.set.name x.signed.set.type t;have h2:(Np.bM h).length<=2100:=by unfold Np.bM;rw[List.length_map];exact rc.out.use.pubAll
          have h3:(Np.fe (Np.bM h) x.signed.set.name x.signed.set.type t).length=np:=tm;omega
         have SC:Hid (SlR bP 5 w9 w9.heap.size (.slice Ap np cp) (Np.fe (Np.bM h) x.signed.set.name x.signed.set.type t)):=jq vK;have tN:=fN.size;have eS:=aBY cr fN;have xa:Hid (Below wr.heap.size wr w9):=aBY Fk fN;have gL:=jq (eU.out.keep fN (by omega));clear tm vK fN q0 q1 q2 q3 q4 q5 q6;have q0:=gL.out 0 _ rfl;have q1:=gL.out 1 _ rfl;have q2:=gL.out 2 _ rfl;have q3:=gL.out 3 _ rfl;have q4:=gL.out 4 _ rfl;have q5:=gL.out 5 _ rfl;have q6:=gL.out 6 _ rfl;obtain⟨lb,tk⟩:=aCQ (decide (x.signed∈Np.fe (Np.bM h) x.signed.set.name x.signed.set.type t));have gF:Hid (mb=true->lb=true):=jq (λhm=>by rw[<-tk];exact uQ (Np.Y4 (KC.out.trans hm)));have zc:=jq tk;clear tk;go_wp2_with fail;refine (YZ (Np.fe (Np.bM h) x.signed.set.name x.signed.set.type t) x.signed zs uA.out.1 dA dn dc gA gn gc Ap np cp W9 w9 SC.out (jy.out.later cM dt xa.out) (l6.out.later dD eu xa.out)).mono ?_;rw[zc.out];rintro e wA ⟨rfl,iE⟩;have Oz:=iE.size;have eT:=aBY eS iE;have Kg:Hid (Below wr.heap.size wr wA):=aBY xa iE;have uj:=jq (gL.out.keep iE (by omega));clear iE q0 q1 q2 q3 q4 q5 q6;have q0:=uj.out 0 _ rfl;have q1:=uj.out 1 _ rfl;have q2:=uj.out 2 _ rfl;have q3:=uj.out 3 _ rfl;have q4:=uj.out 4 _ rfl;have q5:=uj.out 5 _ rfl;have q6:=uj.out 6 _ rfl;have Sg:Hid (lb=true\/(lb=false/\ab=false)):=jq (by
          cases lb with
          | true=>exact .inl rfl
          | false=>
           refine .inr ⟨rfl,?_⟩
           cases ab with
           | false=>rfl
           | true=>
            have h1:=gF.out (qg.out.symm.trans (nU.out rfl))
            cases h1)
         have nA:=Sg.out;have RK:Hid (∀ w',Below wA.heap.size wA w'->Below wz.heap.size wz w'):=jq (λw' hb=>eT.out.trans (hb.aDQ));rcases nA with rfl | ⟨rfl,rfl⟩
         all_goals
          cases wt with
          | false=>
           go_wp2_with fail;go_roundw
           case rel=>exact⟨k+1,by omega,by go_num,jq (by rw[<-bO.out];rfl),eT⟩
           case measure=>simp[intOf] <;> omega
          | true=>
           go_wp2_with fail;refine (agQ (Np.bM h) ez x.signed zs uA.out.1 dA dn dc gA gn gc t _ wA (ix.out.later sf sh eT.out) (jy.out.later cM dt Kg.out) (l6.out.later dD eu Kg.out)).mono ?_;rw[uA.out.2,KC.out];rintro e wB ⟨rfl,bR⟩;have dE:=jq (RK.out _ bR);clear bR;go_wp2_with fail;go_roundw
           case rel=>exact⟨k+1,by omega,by go_num,jq (by rw[<-bO.out];rfl),dE⟩
           case measure=>simp[intOf] <;> omega
      case neg=>
       have SX:Hid (wt=ab):=jq (by rw[<-CF.out,<-sD.out,kQ (by rw[mW.out];omega)]);have HE:=jq (qa.out.trans (HB.out.mono qa.out.size));have q0:=aBX HB.out Sx.out;obtain rfl:=SX.out
       cases wt with
       | false=>
        have iH:cn≠0:=λh0=>by
         have h1:=sD.out;rw[rQ (mW.out.trans h0)] at h1
         cases h1
        have n1:((cn:Int) == 0)=false:=by simpa using iH
        have n2:(cn == 0)=false:=by simpa using iH
        have n3:decide ((cn:Int)=0)=false:=aDJ;have n4:decide ((0:Int)<(cn:Int))=true:=aDX;have n5:0<cn:=by omega
        go_wp2_with fail;exact bodyPost_ret (v:=.bool true) (by simp[results,results8,go_sem]) rfl ⟨rfl,by first | exact HE.out | (rw[<-hX];exact HE.out)⟩
       | true=>
        by_cases iH:cn=0
        case pos=>
         subst iH;go_wp2_with fail;exact bodyPost_ret (v:=.bool true) (by simp[results,results8,go_sem]) rfl ⟨rfl,by first | exact HE.out | (rw[<-hX];exact HE.out)⟩
        case neg=>
         have n1:((cn:Int) == 0)=false:=by simpa using iH
         have n2:(cn == 0)=false:=by simpa using iH
         have n3:decide ((cn:Int)=0)=false:=aDJ;have n4:decide ((0:Int)<(cn:Int))=true:=aDX;have n5:0<cn:=by omega
         obtain⟨kk,WO⟩:=aCQ (wh.tmod (cn:Int));have mp:0<=kk/\kk<cn:=by
          rw[<-WO];exact⟨Int.tmod_nonneg _ XS.1,Int.tmod_lt_of_pos wh (by omega)⟩
         obtain⟨k,hq⟩:∃ q:Nat,kk=(q:Int):=⟨kk.toNat,by omega⟩;subst hq;have mx:k<cn:=by omega
         obtain⟨cb,co,rfl⟩:∃ b o,cA=some ⟨b,o,none⟩:=by
          obtain⟨x,hx⟩:∃ x,l[k]?=some x:=⟨_,aQ (by rw[mW.out];exact mx)⟩;obtain⟨b,o,_,_,_,_,_,_,_,_,h1,_⟩:=uT Cj.out hx;exact⟨b,o,h1⟩
         obtain⟨m,hm⟩:=aCQ (cn - (k+1));obtain⟨mc,lM⟩:=aCQ (ck - (k+1));obtain⟨sA,mD,oh⟩:=aqZ cb co cn ck k (by omega) Nc Cj.out mW.out;rw[hm,lM] at oh;have mt:k<=ck:=by omega
         have ah:IntKind.i64.wrap ((k:Int)+1)=(k:Int)+1:=IntWalk.i64_in _ (by omega);have mq:(0:Int)<=(k:Int)+1:=by omega
         have mr:(k:Int)+1<=(cn:Int):=by omega
         have fl:Hid (SlR cH 7 wz wz.heap.size (.slice (some ⟨cb,co,none⟩) k ck) (l.take k)):=jq (ZK Cj.out mW.out (by omega));have oh:=jq oh;have bZ:Hid ((l.take k).length=k):=jq (by rw[List.length_take,mW.out];omega);have fT:Hid ((l.drop (k+1)).length=m):=jq (by rw[List.length_drop,mW.out];exact hm);have lE:=jq (Np.YY l k);have hm4:m<=400:=by omega
         go_wp2_with fail;obtain⟨w8,eZ⟩:=aCQ wr.drew;have dS:Below wr.heap.size wr w8:=by rw[<-eZ];exact (vQ _ _).drew
         have ew:Hid (Below wz.heap.size wz w8):=aBY HB dS;have q0:=aBX dS q0;have qL:=dS.size;obtain⟨S0,oH⟩:=aCQ w8.heap.size;have xS:wz.heap.size<=S0:=by omega
         have lZ:Hid (Below S0 w8 w8):=jq (vQ _ _);have Gb:Hid (∀ w',Below S0 w8 w'->SlR cH 7 (bA w' λj=>S0<=j) w'.heap.size (.slice (some ⟨cb,co,none⟩) k ck) (l.take k)):=jq (λw' hb=>(fl.out.keep eR (ew.out.trans (hb.mono xS))).around eR ir (λj hj=>by omega) (by have:=hb.size;have:=ew.out.size;omega));have fJ:Hid (∀ w',Below S0 w8 w'->SlR cH 7 (bA w' λj=>S0<=j) w'.heap.size (.slice sA m mc) (l.drop (k+1))):=jq (λw' hb=>(oh.out.keep eR (ew.out.trans (hb.mono xS))).around eR ir (λj hj=>by omega) (by have:=hb.size;have:=ew.out.size;omega));obtain⟨ei,vj,vl,vm,vn⟩:=info_parts Tryz.infoEntryA;clear dS;refine QW λa0 cJ=>?_;have kC:=jq cJ;have lX:=jq (show a0.eval (.tmp 5) = .pointer (some ⟨X+1,0,none⟩) by rw[cJ];rfl);have lW:=jq (show a0.eval (.tmp 20) = .int .i64 (k:Nat) by rw[cJ];rfl);have HM:=jq (show a0.tmps.size=169 by rw[cJ];rfl);clear cJ;refine wp_region_any (by kernel_rfl) ?_
         try rw[show ({ heap:=wr.heap,tape:=wr.tape,drawn:=wr.drawn+1,os:=wr.os,output:=wr.output } : World)=w8 from eZ]
         try rw[eZ]
         refine JD [0,13] 0 (D:=[1,2,3,4,6,7,8,9,10]) (val:=bI X cb co cn ck k m mc sA undef undef undef undef) eL fP (vp HM.out) (by kernel_rfl) ?_ ?_
         ·intro i aG bn o ho a' hb aF;have k5':=aEJ hb lX.out;have k20':=aEJ hb lW.out;simp[Act.eval] at k5' k20'
          repeat' (rcases aG with _ | ⟨_,aG⟩)
          all_goals first
           | (exfalso;simp at bn;done)
           | (cases ho
              try simp[Act.eval,Region.binds,bI,ef] at aF
              refine fw (by simp[Region.wanted]) ?_;simp[Oper.quietAt,Oper.quietUpon,execOp,go_sem,bI,k5',k20',q0,mt,ah,mq,mr,mD,hm,lM,aF])
         ·intro p lh
          repeat' (rcases lh with _ | ⟨_,lh⟩)
          ·intro f listed a' hH hr hv;simp only[wpOp];simp[Region.wanted];refine .inl ?_;simp[Oper.wp,execOp,go_sem];obtain⟨wE,cS⟩:=aCY (w8.alloc (.cells #[] 83));rw[<-cS];have ae:Below w8.heap.size w8 wE:=by rw[cS];exact (vQ _ _).alloc (bQ _) _
           have jm:wE.heap.size=w8.heap.size+1:=by rw[cS];simp
           have gT:wE.heap[w8.heap.size]?=some (.cells #[] 83 (0,0)):=by rw[cS];exact heap_alloc_new _ _
           have pi:Hid (Below S0 w8 wE):=jq (lZ.out.trans (ae.mono (by have:=lZ.out.size;omega)));replace q0:=(ae.cell (p:=⟨X+1,0,none⟩) (by dsimp only;have:=lZ.out.size;omega)).trans q0;have iM:=jq (show S0<=w8.heap.size by have:=lZ.out.size;omega);have go:=pi;have Ic:w8.heap.size=w8.heap.size:=rfl;obtain⟨wE0,GY⟩:=aCQ w8.heap.size;rw[GY] at gT |-;have rj:Hid (bF cH 7 83 S0 (λj=>S0<=j) wE (.slice (some ⟨wE0,0,none⟩) 0 0) []):=jq ⟨[],rfl,⟨rfl,.inr ⟨wE0,0,#[],rfl,by have:=iM.out;omega,gT,bQ _,by decide,rfl,rfl⟩⟩,λg hg=>by have:=iM.out;have e:wE0=g:=Option.some.inj hg;omega,λi r x h=>by simp at h⟩;have lw:Hid (wE0<wE.heap.size):=jq (by omega);clear cS ae gT Ic;refine JD [5,13] 5 (D:=[1,2,3,4,6,7,8,9,10,0]) (val:=bI X cb co cn ck k m mc sA (.slice (some ⟨wE0,0,none⟩) 0 0) undef undef undef) eL fP (hH.next eL fP hr) (by kernel_rfl) ?_ ?_
           ·intro i aG bn o ho a' hb aF;have k5':=aEJ hb lX.out;have k20':=aEJ hb lW.out;simp[Act.eval] at k5' k20'
            repeat' (rcases aG with _ | ⟨_,aG⟩)
            all_goals first
             | (exfalso;simp at bn;done)
             | (cases ho
                try simp[Act.eval,Region.binds,bI,ef] at aF
                refine fw (by simp[Region.wanted]) ?_;simp[Oper.quietAt,Oper.quietUpon,execOp,go_sem,bI,k5',k20',q0,mt,ah,mq,mr,mD,hm,lM,aF])
           ·intro p lh
            repeat' (rcases lh with _ | ⟨_,lh⟩)
            ·intro f listed a' hH hr hv;have av0:=hv 0;have av4:=hv 4;simp[bI,ef] at av0 av4;simp only[wpOp];simp[Region.wanted];refine .inl ?_;refine su (R:=cH) (M:=λj=>S0<=j) wE (.tmp 140) (.tmp 144) 74 rfl S0 83 ei (.agg #[.string ⟨#[]⟩,.int .i64 0,.int .i64 0,.slice none 0 0,.slice none 0 0,.string ⟨#[]⟩,.int .i64 0]) 104 underlying74 vj vl vm vn rfl (by decide) (.slice (some ⟨wE0,0,none⟩) 0 0) [] av0 rj.out (some ⟨cb,co,none⟩) ck (l.take k) (by rw[bZ.out];exact av4) (tX (Gb.out wE go.out) (by decide)) wI (by simp only[List.length_nil,bZ.out,fT.out];unfold maxLen;omega) (by simp only[List.length_nil,bZ.out,fT.out];omega) (by have:=go.out.size;omega) eR jV ir ?_;intro v5 wF bJ bw eX;have jm:=bw.size;have db:=go.out.size;have im:=rj.out.lt;have dI:Hid (Below S0 w8 wF):=jq (go.out.grown bw (by omega) (λg hg=>(im g hg).1));have oe:Hid (bF cH 7 83 S0 (λj=>S0<=j) wF v5 (l.take k)):=jq ((bJ.sameM (M':=λj=>S0<=j) (λk=>⟨λe=>e.elim id (λe=>(bJ.lt k e).1),.inl⟩)));replace q0:=aBX dI.out ((go.out.cell (p:=⟨X+1,0,none⟩) (by dsimp only;omega)).symm.trans q0);have lw:Hid (∀ gk,v5.ownBlock=some gk->gk<wF.heap.size):=jq (λgk hk=>(bJ.lt gk hk).2);clear bJ bw eX im db;refine JD [11,13] 11 (D:=[1,2,3,4,6,7,8,9,10,0,5]) (val:=bI X cb co cn ck k m mc sA (.slice (some ⟨wE0,0,none⟩) 0 0) v5 undef undef) eL fP (hH.next eL fP hr) (by kernel_rfl) ?_ ?_
             ·intro i aG bn o ho a' hb aF;have k5':=aEJ hb lX.out;have k20':=aEJ hb lW.out;simp[Act.eval] at k5' k20'
              repeat' (rcases aG with _ | ⟨_,aG⟩)
              all_goals first
               | (exfalso;simp at bn;done)
               | (cases ho
                  try simp[Act.eval,Region.binds,bI,ef] at aF
                  refine fw (by simp[Region.wanted]) ?_;simp[Oper.quietAt,Oper.quietUpon,execOp,go_sem,bI,k5',k20',q0,mt,ah,mq,mr,mD,hm,lM,aF])
             ·intro p lh
              repeat' (rcases lh with _ | ⟨_,lh⟩)
              ·intro f listed a' hH hr hv;have av5:=hv 5;have av10:=hv 10;simp[bI,ef] at av5 av10;simp only[wpOp];simp[Region.wanted];refine .inl ?_;refine su (R:=cH) (M:=λj=>S0<=j) wF (.tmp 145) (.tmp 150) 74 rfl S0 83 ei (.agg #[.string ⟨#[]⟩,.int .i64 0,.int .i64 0,.slice none 0 0,.slice none 0 0,.string ⟨#[]⟩,.int .i64 0]) 104 underlying74 vj vl vm vn rfl (by decide) v5 (l.take k) av5 oe.out sA mc (l.drop (k+1)) (by rw[fT.out];exact av10) (tX (fJ.out wF dI.out) (by decide)) wI (by simp only[List.length_nil,bZ.out,fT.out];unfold maxLen;omega) (by simp only[List.length_nil,bZ.out,fT.out];omega) (by have:=dI.out.size;omega) eR jV ir ?_;intro v11 wG bJ bw eX;obtain⟨aL,cL,rfl⟩:=bJ.formN (n:=k+m) (by rw[List.length_append,bZ.out,fT.out]);have jm:=bw.size;have db:=dI.out.size;have im:=oe.out.lt;have lY:Hid (Below S0 w8 wG):=jq (dI.out.grown bw (by omega) (λg hg=>(im g hg).1));have mZ:Hid (bF cH 7 83 S0 (λj=>S0<=j) wG (Value.slice aL (k+m) cL) (l.take k++l.drop (k+1))):=jq ((bJ.sameM (M':=λj=>S0<=j) (λk=>⟨λe=>e.elim id (λe=>(bJ.lt k e).1),.inl⟩)));replace q0:=aBX lY.out ((dI.out.cell (p:=⟨X+1,0,none⟩) (by dsimp only;omega)).symm.trans q0);have lw:Hid (∀ gk,(Value.slice aL (k+m) cL).ownBlock=some gk->gk<wG.heap.size):=jq (λgk hk=>(bJ.lt gk hk).2);clear bJ bw eX im db;refine fS 13 (D:=[1,2,3,4,6,7,8,9,10,12,0,5,11]) (val:=bI X cb co cn ck k m mc sA (.slice (some ⟨wE0,0,none⟩) 0 0) v5 (Value.slice aL (k+m) cL) undef) eL fP (hH.next eL fP hr) (by kernel_rfl) ?_ ?_
               ·intro i aG bn o ho a' hb aF;have k5':=aEJ hb lX.out;have k20':=aEJ hb lW.out;simp[Act.eval] at k5' k20'
                repeat' (rcases aG with _ | ⟨_,aG⟩)
                all_goals first
                 | (exfalso;simp at bn;done)
                 | (cases ho
                    try simp[Act.eval,Region.binds,bI,ef] at aF
                    refine fw (by simp[Region.wanted]) ?_;simp[Oper.quietAt,Oper.quietUpon,execOp,go_sem,bI,k5',k20',q0,mt,ah,mq,mr,mD,hm,lM,aF])
               ·intro f listed a' hH hr hv;simp only[wpOp];simp[Region.wanted];refine .inl ?_;simp[Oper.wp,execOp,go_sem];obtain⟨wB,cS⟩:=aCY (wG.alloc (.cells #[.slice none 0 0] 76));rw[<-cS];have ae:Below wG.heap.size wG wB:=by rw[cS];exact (vQ _ _).alloc (bQ _) _
                have jm:wB.heap.size=wG.heap.size+1:=by rw[cS];simp
                have gT:wB.heap[wG.heap.size]?=some (.cells #[.slice none 0 0] 76 (0,0)):=by rw[cS];exact heap_alloc_new _ _
                have pi:Hid (Below S0 w8 wB):=jq (lY.out.trans (ae.mono (by have:=lY.out.size;omega)));replace q0:=(ae.cell (p:=⟨X+1,0,none⟩) (by dsimp only;have:=lY.out.size;omega)).trans q0;have iM:=jq (show S0<=wG.heap.size by have:=lY.out.size;omega);have dE:=pi;obtain⟨gB,vr⟩:=aCQ wG.heap.size;rw[vr] at gT |-;have eI:Hid (Boxed wB gB 76 (.slice none 0 0)):=jq gT;have lz:Hid (S0<=gB/\gB<wB.heap.size):=jq (by have:=iM.out;omega);have mZ:=jq (mZ.out.keep eR jV ir ae);have gp:Hid (∀ gk,(Value.slice aL (k+m) cL).ownBlock=some gk->gk≠gB):=jq (λgk hk e=>by have:=lw.out gk hk;omega);have gN:Hid (gB<wB.heap.size):=jq (by omega);clear cS ae gT;refine fS 14 (D:=[1,2,3,4,6,7,8,9,10,12,0,5,11,13]) (val:=bI X cb co cn ck k m mc sA (.slice (some ⟨wE0,0,none⟩) 0 0) v5 (Value.slice aL (k+m) cL) (.pointer (some ⟨gB,0,none⟩))) eL fP (hH.next eL fP hr) (by kernel_rfl) ?_ ?_
                ·intro i aG bn o ho a' hb aF;have k5':=aEJ hb lX.out;have k20':=aEJ hb lW.out;simp[Act.eval] at k5' k20'
                 repeat' (rcases aG with _ | ⟨_,aG⟩)
                 all_goals first
                  | (exfalso;simp at bn;done)
                  | (cases ho
                     try simp[Act.eval,Region.binds,bI,ef] at aF
                     refine fw (by simp[Region.wanted]) ?_;simp[Oper.quietAt,Oper.quietUpon,execOp,go_sem,bI,k5',k20',q0,mt,ah,mq,mr,mD,hm,lM,aF])
                ·intro f listed a' hH hr hv;have av12:=hv 12;have av13:=hv 13;simp[Act.eval,bI,ef] at av12 av13;simp only[wpOp];simp[Region.wanted];refine .inl ?_;have bB:=eI.out.cell;have zB:=eI.out.frozen;simp[Oper.wp,execOp,go_sem,av12,av13,bB,zB];refine sr hH hr HM.out eL (by kernel_rfl) λfH=>?_
                 ·rw[fH];rw[kC.out];simp[kA,Act.put,bI,ef];clear hv hH fH;obtain⟨wL,gW⟩:=aCQ (wB.setCell ⟨gB,0,none⟩ (.slice aL (k+m) cL));have GT:=gN.out;have bW:Hid (Below wz.heap.size wz wL):=jq (by rw[<-gW];exact (ew.out.trans (dE.out.mono xS)).setCell (by dsimp only;omega) _);have qf:Hid (SlR cH 7 wL wL.heap.size (.slice aL (k+m) cL) (l.take k++l.drop (k+1))):=jq (by
                   rw[<-gW];have h0:=mZ.out.leaves (w':=wB.setCell ⟨gB,0,none⟩ (.slice aL (k+m) cL)) (M':=λj=>S0<=j) eR jV ir (Leaves'.setCell _ _ (by dsimp only;exact lz.out.1) _) (λg hg=>⟨wQ _ _ _ _ (by dsimp only;exact gp.out g hg),(mZ.out.lt g hg).1⟩);exact h0.slr jV (by rw[List.length_append,bZ.out,fT.out];omega))
                  have bL:wL.cell? ⟨gB,0,none⟩=some (.slice aL (k+m) cL):=by rw[<-gW];simp[go_sem,bB]
                  have k0:=(cF.out.keep bW.out (by omega)) 0 _ rfl;have k1:=(cF.out.keep bW.out (by omega)) 1 _ rfl;have k2:=(cF.out.keep bW.out (by omega)) 2 _ rfl;have k3:=(cF.out.keep bW.out (by omega)) 3 _ rfl;have k4:=(cF.out.keep bW.out (by omega)) 4 _ rfl;have k5:=(cF.out.keep bW.out (by omega)) 5 _ rfl;have k6:=(cF.out.keep bW.out (by omega)) 6 _ rfl;have k7:=(cF.out.keep bW.out (by omega)) 7 _ rfl;have k8:=(cF.out.keep bW.out (by omega)) 8 _ rfl
                  try rw[gW]
                  clear gW bB zB q0;have pk:=jq (qa.out.trans (bW.out.mono qa.out.size));go_wp2_with fail;clear bL k0 k1 k2 k3 k4 k5 k6 k7 k8;refine (zW _ h _ (l.take k++l.drop (k+1)) t wL (iN.out.next bW.out) (y7.out.keep bW.out) qf.out (λe he=>nh.out e (lE.out.subset he))).mono ?_;rw[Np.xG ⟨gq.out,lF.out.sub lE.out,xx.out⟩];dsimp only;rw[Np.CR sD.out lE.out];rintro e wM ⟨rfl,hb⟩;have HEM:=jq (pk.out.trans (hb.mono pk.out.size));clear hb;go_wp2_with fail;exact bodyPost_ret (v:=.bool true) (by simp[results,results8,go_sem]) rfl ⟨rfl,by first | exact HEM.out | (rw[<-hX];exact HEM.out)⟩
              ·intro f listed a' hH hr hv;simp only[wpOp];simp[Region.wanted];refine .inl ?_;simp[Oper.wp,execOp,go_sem];obtain⟨wB,cS⟩:=aCY (wF.alloc (.cells #[.slice none 0 0] 76));rw[<-cS];have ae:Below wF.heap.size wF wB:=by rw[cS];exact (vQ _ _).alloc (bQ _) _
               have jm:wB.heap.size=wF.heap.size+1:=by rw[cS];simp
               have gT:wB.heap[wF.heap.size]?=some (.cells #[.slice none 0 0] 76 (0,0)):=by rw[cS];exact heap_alloc_new _ _
               have pi:Hid (Below S0 w8 wB):=jq (dI.out.trans (ae.mono (by have:=dI.out.size;omega)));replace q0:=(ae.cell (p:=⟨X+1,0,none⟩) (by dsimp only;have:=dI.out.size;omega)).trans q0;have iM:=jq (show S0<=wF.heap.size by have:=dI.out.size;omega);have dE:=pi;obtain⟨gB,vr⟩:=aCQ wF.heap.size;rw[vr] at gT |-;have eI:Hid (Boxed wB gB 76 (.slice none 0 0)):=jq gT;have lz:Hid (S0<=gB/\gB<wB.heap.size):=jq (by have:=iM.out;omega);have oe:=jq (oe.out.keep eR jV ir ae);have gp:Hid (∀ gk,v5.ownBlock=some gk->gk≠gB):=jq (λgk hk e=>by have:=lw.out gk hk;omega);have gN:Hid (gB<wB.heap.size):=jq (by omega);clear cS ae gT;refine fS 11 (D:=[1,2,3,4,6,7,8,9,10,0,5,13]) (val:=bI X cb co cn ck k m mc sA (.slice (some ⟨wE0,0,none⟩) 0 0) v5 undef (.pointer (some ⟨gB,0,none⟩))) eL fP (hH.next eL fP hr) (by kernel_rfl) ?_ ?_
               ·intro i aG bn o ho a' hb aF;have k5':=aEJ hb lX.out;have k20':=aEJ hb lW.out;simp[Act.eval] at k5' k20'
                repeat' (rcases aG with _ | ⟨_,aG⟩)
                all_goals first
                 | (exfalso;simp at bn;done)
                 | (cases ho
                    try simp[Act.eval,Region.binds,bI,ef] at aF
                    refine fw (by simp[Region.wanted]) ?_;simp[Oper.quietAt,Oper.quietUpon,execOp,go_sem,bI,k5',k20',q0,mt,ah,mq,mr,mD,hm,lM,aF])
               ·intro f listed a' hH hr hv;have av5:=hv 5;have av10:=hv 10;simp[bI,ef] at av5 av10;simp only[wpOp];simp[Region.wanted];refine .inl ?_;refine su (R:=cH) (M:=λj=>S0<=j) wB (.tmp 145) (.tmp 150) 74 rfl S0 83 ei (.agg #[.string ⟨#[]⟩,.int .i64 0,.int .i64 0,.slice none 0 0,.slice none 0 0,.string ⟨#[]⟩,.int .i64 0]) 104 underlying74 vj vl vm vn rfl (by decide) v5 (l.take k) av5 oe.out sA mc (l.drop (k+1)) (by rw[fT.out];exact av10) (tX (fJ.out wB dE.out) (by decide)) wI (by simp only[List.length_nil,bZ.out,fT.out];unfold maxLen;omega) (by simp only[List.length_nil,bZ.out,fT.out];omega) (by have:=dE.out.size;omega) eR jV ir ?_;intro v11 wG bJ bw eX;obtain⟨aL,cL,rfl⟩:=bJ.formN (n:=k+m) (by rw[List.length_append,bZ.out,fT.out]);have jm:=bw.size;have db:=dE.out.size;have im:=oe.out.lt;have lY:Hid (Below S0 w8 wG):=jq (dE.out.grown bw (by omega) (λg hg=>(im g hg).1));have mZ:Hid (bF cH 7 83 S0 (λj=>S0<=j) wG (Value.slice aL (k+m) cL) (l.take k++l.drop (k+1))):=jq ((bJ.sameM (M':=λj=>S0<=j) (λk=>⟨λe=>e.elim id (λe=>(bJ.lt k e).1),.inl⟩)));replace q0:=aBX lY.out ((dE.out.cell (p:=⟨X+1,0,none⟩) (by dsimp only;omega)).symm.trans q0);have lw:Hid (∀ gk,(Value.slice aL (k+m) cL).ownBlock=some gk->gk<wG.heap.size):=jq (λgk hk=>(bJ.lt gk hk).2);have eI:Hid (Boxed wG gB 76 (.slice none 0 0)):=jq ((bw.block gB eI.out.lt (λe=>by exact gp.out gB e.symm rfl)).trans eI.out);have gp:Hid (∀ gk,(Value.slice aL (k+m) cL).ownBlock=some gk->gk≠gB):=jq (λgk hk e=>by
                 rcases eX with h | h
                 ·exact gp.out gk (h ▸ hk) e
                 ·have h1:=Option.some.inj (h.symm.trans hk)
                  have:=gN.out
                  omega)
                have gN:Hid (gB<wG.heap.size):=jq (by have:=gN.out;omega);clear bJ bw eX im db;refine fS 14 (D:=[1,2,3,4,6,7,8,9,10,12,0,5,11,13]) (val:=bI X cb co cn ck k m mc sA (.slice (some ⟨wE0,0,none⟩) 0 0) v5 (Value.slice aL (k+m) cL) (.pointer (some ⟨gB,0,none⟩))) eL fP (hH.next eL fP hr) (by kernel_rfl) ?_ ?_
                ·intro i aG bn o ho a' hb aF;have k5':=aEJ hb lX.out;have k20':=aEJ hb lW.out;simp[Act.eval] at k5' k20'
                 repeat' (rcases aG with _ | ⟨_,aG⟩)
                 all_goals first
                  | (exfalso;simp at bn;done)
                  | (cases ho
                     try simp[Act.eval,Region.binds,bI,ef] at aF
                     refine fw (by simp[Region.wanted]) ?_;simp[Oper.quietAt,Oper.quietUpon,execOp,go_sem,bI,k5',k20',q0,mt,ah,mq,mr,mD,hm,lM,aF])
                ·intro f listed a' hH hr hv;have av12:=hv 12;have av13:=hv 13;simp[Act.eval,bI,ef] at av12 av13;simp only[wpOp];simp[Region.wanted];refine .inl ?_;have bB:=eI.out.cell;have zB:=eI.out.frozen;simp[Oper.wp,execOp,go_sem,av12,av13,bB,zB];refine sr hH hr HM.out eL (by kernel_rfl) λfH=>?_
                 ·rw[fH];rw[kC.out];simp[kA,Act.put,bI,ef];clear hv hH fH;obtain⟨wL,gW⟩:=aCQ (wG.setCell ⟨gB,0,none⟩ (.slice aL (k+m) cL));have GT:=gN.out;have bW:Hid (Below wz.heap.size wz wL):=jq (by rw[<-gW];exact (ew.out.trans (lY.out.mono xS)).setCell (by dsimp only;omega) _);have qf:Hid (SlR cH 7 wL wL.heap.size (.slice aL (k+m) cL) (l.take k++l.drop (k+1))):=jq (by
                   rw[<-gW];have h0:=mZ.out.leaves (w':=wG.setCell ⟨gB,0,none⟩ (.slice aL (k+m) cL)) (M':=λj=>S0<=j) eR jV ir (Leaves'.setCell _ _ (by dsimp only;exact lz.out.1) _) (λg hg=>⟨wQ _ _ _ _ (by dsimp only;exact gp.out g hg),(mZ.out.lt g hg).1⟩);exact h0.slr jV (by rw[List.length_append,bZ.out,fT.out];omega))
                  have bL:wL.cell? ⟨gB,0,none⟩=some (.slice aL (k+m) cL):=by rw[<-gW];simp[go_sem,bB]
                  have k0:=(cF.out.keep bW.out (by omega)) 0 _ rfl;have k1:=(cF.out.keep bW.out (by omega)) 1 _ rfl;have k2:=(cF.out.keep bW.out (by omega)) 2 _ rfl;have k3:=(cF.out.keep bW.out (by omega)) 3 _ rfl;have k4:=(cF.out.keep bW.out (by omega)) 4 _ rfl;have k5:=(cF.out.keep bW.out (by omega)) 5 _ rfl;have k6:=(cF.out.keep bW.out (by omega)) 6 _ rfl;have k7:=(cF.out.keep bW.out (by omega)) 7 _ rfl;have k8:=(cF.out.keep bW.out (by omega)) 8 _ rfl
                  try rw[gW]
                  clear gW bB zB q0;have pk:=jq (qa.out.trans (bW.out.mono qa.out.size));go_wp2_with fail;clear bL k0 k1 k2 k3 k4 k5 k6 k7 k8;refine (zW _ h _ (l.take k++l.drop (k+1)) t wL (iN.out.next bW.out) (y7.out.keep bW.out) qf.out (λe he=>nh.out e (lE.out.subset he))).mono ?_;rw[Np.xG ⟨gq.out,lF.out.sub lE.out,xx.out⟩];dsimp only;rw[Np.CR sD.out lE.out];rintro e wM ⟨rfl,hb⟩;have HEM:=jq (pk.out.trans (hb.mono pk.out.size));clear hb;go_wp2_with fail;exact bodyPost_ret (v:=.bool true) (by simp[results,results8,go_sem]) rfl ⟨rfl,by first | exact HEM.out | (rw[<-hX];exact HEM.out)⟩
            ·intro f listed a' hH hr hv;simp only[wpOp];simp[Region.wanted];refine .inl ?_;simp[Oper.wp,execOp,go_sem];obtain⟨wB,cS⟩:=aCY (wE.alloc (.cells #[.slice none 0 0] 76));rw[<-cS];have ae:Below wE.heap.size wE wB:=by rw[cS];exact (vQ _ _).alloc (bQ _) _
             have jm:wB.heap.size=wE.heap.size+1:=by rw[cS];simp
             have gT:wB.heap[wE.heap.size]?=some (.cells #[.slice none 0 0] 76 (0,0)):=by rw[cS];exact heap_alloc_new _ _
             have pi:Hid (Below S0 w8 wB):=jq (go.out.trans (ae.mono (by have:=go.out.size;omega)));replace q0:=(ae.cell (p:=⟨X+1,0,none⟩) (by dsimp only;have:=go.out.size;omega)).trans q0;have iM:=jq (show S0<=wE.heap.size by have:=go.out.size;omega);have dE:=pi;obtain⟨gB,vr⟩:=aCQ wE.heap.size;rw[vr] at gT |-;have eI:Hid (Boxed wB gB 76 (.slice none 0 0)):=jq gT;have lz:Hid (S0<=gB/\gB<wB.heap.size):=jq (by have:=iM.out;omega);have rj:=jq (rj.out.keep eR jV ir ae);have gp:Hid (wE0≠gB):=jq (λe=>by have:=lw.out;omega);have gN:Hid (gB<wB.heap.size):=jq (by omega);clear cS ae gT;refine fS 5 (D:=[1,2,3,4,6,7,8,9,10,0,13]) (val:=bI X cb co cn ck k m mc sA (.slice (some ⟨wE0,0,none⟩) 0 0) undef undef (.pointer (some ⟨gB,0,none⟩))) eL fP (hH.next eL fP hr) (by kernel_rfl) ?_ ?_
             ·intro i aG bn o ho a' hb aF;have k5':=aEJ hb lX.out;have k20':=aEJ hb lW.out;simp[Act.eval] at k5' k20'
              repeat' (rcases aG with _ | ⟨_,aG⟩)
              all_goals first
               | (exfalso;simp at bn;done)
               | (cases ho
                  try simp[Act.eval,Region.binds,bI,ef] at aF
                  refine fw (by simp[Region.wanted]) ?_;simp[Oper.quietAt,Oper.quietUpon,execOp,go_sem,bI,k5',k20',q0,mt,ah,mq,mr,mD,hm,lM,aF])
             ·intro f listed a' hH hr hv;have av0:=hv 0;have av4:=hv 4;simp[bI,ef] at av0 av4;simp only[wpOp];simp[Region.wanted];refine .inl ?_;refine su (R:=cH) (M:=λj=>S0<=j) wB (.tmp 140) (.tmp 144) 74 rfl S0 83 ei (.agg #[.string ⟨#[]⟩,.int .i64 0,.int .i64 0,.slice none 0 0,.slice none 0 0,.string ⟨#[]⟩,.int .i64 0]) 104 underlying74 vj vl vm vn rfl (by decide) (.slice (some ⟨wE0,0,none⟩) 0 0) [] av0 rj.out (some ⟨cb,co,none⟩) ck (l.take k) (by rw[bZ.out];exact av4) (tX (Gb.out wB dE.out) (by decide)) wI (by simp only[List.length_nil,bZ.out,fT.out];unfold maxLen;omega) (by simp only[List.length_nil,bZ.out,fT.out];omega) (by have:=dE.out.size;omega) eR jV ir ?_;intro v5 wF bJ bw eX;have jm:=bw.size;have db:=dE.out.size;have im:=rj.out.lt;have dI:Hid (Below S0 w8 wF):=jq (dE.out.grown bw (by omega) (λg hg=>(im g hg).1));have oe:Hid (bF cH 7 83 S0 (λj=>S0<=j) wF v5 (l.take k)):=jq ((bJ.sameM (M':=λj=>S0<=j) (λk=>⟨λe=>e.elim id (λe=>(bJ.lt k e).1),.inl⟩)));replace q0:=aBX dI.out ((dE.out.cell (p:=⟨X+1,0,none⟩) (by dsimp only;omega)).symm.trans q0);have lw:Hid (∀ gk,v5.ownBlock=some gk->gk<wF.heap.size):=jq (λgk hk=>(bJ.lt gk hk).2);have eI:Hid (Boxed wF gB 76 (.slice none 0 0)):=jq ((bw.block gB eI.out.lt (λe=>by exact gp.out (Option.some.inj e).symm)).trans eI.out);have gp:Hid (∀ gk,v5.ownBlock=some gk->gk≠gB):=jq (λgk hk e=>by
               rcases eX with h | h
               ·have h1:=Option.some.inj (h.symm.trans hk);exact gp.out (h1.trans e)
               ·have h1:=Option.some.inj (h.symm.trans hk)
                have:=gN.out
                omega)
              have gN:Hid (gB<wF.heap.size):=jq (by have:=gN.out;omega);clear bJ bw eX im db;refine fS 11 (D:=[1,2,3,4,6,7,8,9,10,0,5,13]) (val:=bI X cb co cn ck k m mc sA (.slice (some ⟨wE0,0,none⟩) 0 0) v5 undef (.pointer (some ⟨gB,0,none⟩))) eL fP (hH.next eL fP hr) (by kernel_rfl) ?_ ?_
              ·intro i aG bn o ho a' hb aF;have k5':=aEJ hb lX.out;have k20':=aEJ hb lW.out;simp[Act.eval] at k5' k20'
               repeat' (rcases aG with _ | ⟨_,aG⟩)
               all_goals first
                | (exfalso;simp at bn;done)
                | (cases ho
                   try simp[Act.eval,Region.binds,bI,ef] at aF
                   refine fw (by simp[Region.wanted]) ?_;simp[Oper.quietAt,Oper.quietUpon,execOp,go_sem,bI,k5',k20',q0,mt,ah,mq,mr,mD,hm,lM,aF])
              ·intro f listed a' hH hr hv;have av5:=hv 5;have av10:=hv 10;simp[bI,ef] at av5 av10;simp only[wpOp];simp[Region.wanted];refine .inl ?_;refine su (R:=cH) (M:=λj=>S0<=j) wF (.tmp 145) (.tmp 150) 74 rfl S0 83 ei (.agg #[.string ⟨#[]⟩,.int .i64 0,.int .i64 0,.slice none 0 0,.slice none 0 0,.string ⟨#[]⟩,.int .i64 0]) 104 underlying74 vj vl vm vn rfl (by decide) v5 (l.take k) av5 oe.out sA mc (l.drop (k+1)) (by rw[fT.out];exact av10) (tX (fJ.out wF dI.out) (by decide)) wI (by simp only[List.length_nil,bZ.out,fT.out];unfold maxLen;omega) (by simp only[List.length_nil,bZ.out,fT.out];omega) (by have:=dI.out.size;omega) eR jV ir ?_;intro v11 wG bJ bw eX;obtain⟨aL,cL,rfl⟩:=bJ.formN (n:=k+m) (by rw[List.length_append,bZ.out,fT.out]);have jm:=bw.size;have db:=dI.out.size;have im:=oe.out.lt;have lY:Hid (Below S0 w8 wG):=jq (dI.out.grown bw (by omega) (λg hg=>(im g hg).1));have mZ:Hid (bF cH 7 83 S0 (λj=>S0<=j) wG (Value.slice aL (k+m) cL) (l.take k++l.drop (k+1))):=jq ((bJ.sameM (M':=λj=>S0<=j) (λk=>⟨λe=>e.elim id (λe=>(bJ.lt k e).1),.inl⟩)));replace q0:=aBX lY.out ((dI.out.cell (p:=⟨X+1,0,none⟩) (by dsimp only;omega)).symm.trans q0);have lw:Hid (∀ gk,(Value.slice aL (k+m) cL).ownBlock=some gk->gk<wG.heap.size):=jq (λgk hk=>(bJ.lt gk hk).2);have eI:Hid (Boxed wG gB 76 (.slice none 0 0)):=jq ((bw.block gB eI.out.lt (λe=>by exact gp.out gB e.symm rfl)).trans eI.out);have gp:Hid (∀ gk,(Value.slice aL (k+m) cL).ownBlock=some gk->gk≠gB):=jq (λgk hk e=>by
                rcases eX with h | h
                ·exact gp.out gk (h ▸ hk) e
                ·have h1:=Option.some.inj (h.symm.trans hk)
                 have:=gN.out
                 omega)
               have gN:Hid (gB<wG.heap.size):=jq (by have:=gN.out;omega);clear bJ bw eX im db;refine fS 14 (D:=[1,2,3,4,6,7,8,9,10,12,0,5,11,13]) (val:=bI X cb co cn ck k m mc sA (.slice (some ⟨wE0,0,none⟩) 0 0) v5 (Value.slice aL (k+m) cL) (.pointer (some ⟨gB,0,none⟩))) eL fP (hH.next eL fP hr) (by kernel_rfl) ?_ ?_
               ·intro i aG bn o ho a' hb aF;have k5':=aEJ hb lX.out;have k20':=aEJ hb lW.out;simp[Act.eval] at k5' k20'
                repeat' (rcases aG with _ | ⟨_,aG⟩)
                all_goals first
                 | (exfalso;simp at bn;done)
                 | (cases ho
                    try simp[Act.eval,Region.binds,bI,ef] at aF
                    refine fw (by simp[Region.wanted]) ?_;simp[Oper.quietAt,Oper.quietUpon,execOp,go_sem,bI,k5',k20',q0,mt,ah,mq,mr,mD,hm,lM,aF])
               ·intro f listed a' hH hr hv;have av12:=hv 12;have av13:=hv 13;simp[Act.eval,bI,ef] at av12 av13;simp only[wpOp];simp[Region.wanted];refine .inl ?_;have bB:=eI.out.cell;have zB:=eI.out.frozen;simp[Oper.wp,execOp,go_sem,av12,av13,bB,zB];refine sr hH hr HM.out eL (by kernel_rfl) λfH=>?_
                ·rw[fH];rw[kC.out];simp[kA,Act.put,bI,ef];clear hv hH fH;obtain⟨wL,gW⟩:=aCQ (wG.setCell ⟨gB,0,none⟩ (.slice aL (k+m) cL));have GT:=gN.out;have bW:Hid (Below wz.heap.size wz wL):=jq (by rw[<-gW];exact (ew.out.trans (lY.out.mono xS)).setCell (by dsimp only;omega) _);have qf:Hid (SlR cH 7 wL wL.heap.size (.slice aL (k+m) cL) (l.take k++l.drop (k+1))):=jq (by
                  rw[<-gW];have h0:=mZ.out.leaves (w':=wG.setCell ⟨gB,0,none⟩ (.slice aL (k+m) cL)) (M':=λj=>S0<=j) eR jV ir (Leaves'.setCell _ _ (by dsimp only;exact lz.out.1) _) (λg hg=>⟨wQ _ _ _ _ (by dsimp only;exact gp.out g hg),(mZ.out.lt g hg).1⟩);exact h0.slr jV (by rw[List.length_append,bZ.out,fT.out];omega))
                 have bL:wL.cell? ⟨gB,0,none⟩=some (.slice aL (k+m) cL):=by rw[<-gW];simp[go_sem,bB]
                 have k0:=(cF.out.keep bW.out (by omega)) 0 _ rfl;have k1:=(cF.out.keep bW.out (by omega)) 1 _ rfl;have k2:=(cF.out.keep bW.out (by omega)) 2 _ rfl;have k3:=(cF.out.keep bW.out (by omega)) 3 _ rfl;have k4:=(cF.out.keep bW.out (by omega)) 4 _ rfl;have k5:=(cF.out.keep bW.out (by omega)) 5 _ rfl;have k6:=(cF.out.keep bW.out (by omega)) 6 _ rfl;have k7:=(cF.out.keep bW.out (by omega)) 7 _ rfl;have k8:=(cF.out.keep bW.out (by omega)) 8 _ rfl
                 try rw[gW]
                 clear gW bB zB q0;have pk:=jq (qa.out.trans (bW.out.mono qa.out.size));go_wp2_with fail;clear bL k0 k1 k2 k3 k4 k5 k6 k7 k8;refine (zW _ h _ (l.take k++l.drop (k+1)) t wL (iN.out.next bW.out) (y7.out.keep bW.out) qf.out (λe he=>nh.out e (lE.out.subset he))).mono ?_;rw[Np.xG ⟨gq.out,lF.out.sub lE.out,xx.out⟩];dsimp only;rw[Np.CR sD.out lE.out];rintro e wM ⟨rfl,hb⟩;have HEM:=jq (pk.out.trans (hb.mono pk.out.size));clear hb;go_wp2_with fail;exact bodyPost_ret (v:=.bool true) (by simp[results,results8,go_sem]) rfl ⟨rfl,by first | exact HEM.out | (rw[<-hX];exact HEM.out)⟩
          ·intro f listed a' hH hr hv;simp only[wpOp];simp[Region.wanted];refine .inl ?_;simp[Oper.wp,execOp,go_sem];obtain⟨wB,cS⟩:=aCY (w8.alloc (.cells #[.slice none 0 0] 76));rw[<-cS];have ae:Below w8.heap.size w8 wB:=by rw[cS];exact (vQ _ _).alloc (bQ _) _
           have jm:wB.heap.size=w8.heap.size+1:=by rw[cS];simp
           have gT:wB.heap[w8.heap.size]?=some (.cells #[.slice none 0 0] 76 (0,0)):=by rw[cS];exact heap_alloc_new _ _
           have pi:Hid (Below S0 w8 wB):=jq (lZ.out.trans (ae.mono (by have:=lZ.out.size;omega)));replace q0:=(ae.cell (p:=⟨X+1,0,none⟩) (by dsimp only;have:=lZ.out.size;omega)).trans q0;have iM:=jq (show S0<=w8.heap.size by have:=lZ.out.size;omega);have dE:=pi;obtain⟨gB,vr⟩:=aCQ w8.heap.size;rw[vr] at gT |-;have eI:Hid (Boxed wB gB 76 (.slice none 0 0)):=jq gT;have lz:Hid (S0<=gB/\gB<wB.heap.size):=jq (by have:=iM.out;omega);have gN:Hid (gB<wB.heap.size):=jq (by omega);clear cS ae gT;refine fS 0 (D:=[1,2,3,4,6,7,8,9,10,13]) (val:=bI X cb co cn ck k m mc sA undef undef undef (.pointer (some ⟨gB,0,none⟩))) eL fP (hH.next eL fP hr) (by kernel_rfl) ?_ ?_
           ·intro i aG bn o ho a' hb aF;have k5':=aEJ hb lX.out;have k20':=aEJ hb lW.out;simp[Act.eval] at k5' k20'
            repeat' (rcases aG with _ | ⟨_,aG⟩)
            all_goals first
             | (exfalso;simp at bn;done)
             | (cases ho
                try simp[Act.eval,Region.binds,bI,ef] at aF
                refine fw (by simp[Region.wanted]) ?_;simp[Oper.quietAt,Oper.quietUpon,execOp,go_sem,bI,k5',k20',q0,mt,ah,mq,mr,mD,hm,lM,aF])
           ·intro f listed a' hH hr hv;simp only[wpOp];simp[Region.wanted];refine .inl ?_;simp[Oper.wp,execOp,go_sem];obtain⟨wE,cS⟩:=aCY (wB.alloc (.cells #[] 83));rw[<-cS];have ae:Below wB.heap.size wB wE:=by rw[cS];exact (vQ _ _).alloc (bQ _) _
            have jm:wE.heap.size=wB.heap.size+1:=by rw[cS];simp
            have gT:wE.heap[wB.heap.size]?=some (.cells #[] 83 (0,0)):=by rw[cS];exact heap_alloc_new _ _
            have pi:Hid (Below S0 w8 wE):=jq (dE.out.trans (ae.mono (by have:=dE.out.size;omega)));replace q0:=(ae.cell (p:=⟨X+1,0,none⟩) (by dsimp only;have:=dE.out.size;omega)).trans q0;have iM:=jq (show S0<=wB.heap.size by have:=dE.out.size;omega);have go:=pi;have Ic:wB.heap.size=wB.heap.size:=rfl;obtain⟨wE0,GY⟩:=aCQ wB.heap.size;rw[GY] at gT |-;have rj:Hid (bF cH 7 83 S0 (λj=>S0<=j) wE (.slice (some ⟨wE0,0,none⟩) 0 0) []):=jq ⟨[],rfl,⟨rfl,.inr ⟨wE0,0,#[],rfl,by have:=iM.out;omega,gT,bQ _,by decide,rfl,rfl⟩⟩,λg hg=>by have:=iM.out;have e:wE0=g:=Option.some.inj hg;omega,λi r x h=>by simp at h⟩;have eI:Hid (Boxed wE gB 76 (.slice none 0 0)):=jq (cD eI.out ae eI.out.lt);have gp:Hid (wE0≠gB):=jq (λe=>by have:=gN.out;omega);have lw:Hid (wE0<wE.heap.size):=jq (by omega);clear cS ae gT Ic;refine fS 5 (D:=[1,2,3,4,6,7,8,9,10,0,13]) (val:=bI X cb co cn ck k m mc sA (.slice (some ⟨wE0,0,none⟩) 0 0) undef undef (.pointer (some ⟨gB,0,none⟩))) eL fP (hH.next eL fP hr) (by kernel_rfl) ?_ ?_
            ·intro i aG bn o ho a' hb aF;have k5':=aEJ hb lX.out;have k20':=aEJ hb lW.out;simp[Act.eval] at k5' k20'
             repeat' (rcases aG with _ | ⟨_,aG⟩)
             all_goals first
              | (exfalso;simp at bn;done)
              | (cases ho
                 try simp[Act.eval,Region.binds,bI,ef] at aF
                 refine fw (by simp[Region.wanted]) ?_;simp[Oper.quietAt,Oper.quietUpon,execOp,go_sem,bI,k5',k20',q0,mt,ah,mq,mr,mD,hm,lM,aF])
            ·intro f listed a' hH hr hv;have av0:=hv 0;have av4:=hv 4;simp[bI,ef] at av0 av4;simp only[wpOp];simp[Region.wanted];refine .inl ?_;refine su (R:=cH) (M:=λj=>S0<=j) wE (.tmp 140) (.tmp 144) 74 rfl S0 83 ei (.agg #[.string ⟨#[]⟩,.int .i64 0,.int .i64 0,.slice none 0 0,.slice none 0 0,.string ⟨#[]⟩,.int .i64 0]) 104 underlying74 vj vl vm vn rfl (by decide) (.slice (some ⟨wE0,0,none⟩) 0 0) [] av0 rj.out (some ⟨cb,co,none⟩) ck (l.take k) (by rw[bZ.out];exact av4) (tX (Gb.out wE go.out) (by decide)) wI (by simp only[List.length_nil,bZ.out,fT.out];unfold maxLen;omega) (by simp only[List.length_nil,bZ.out,fT.out];omega) (by have:=go.out.size;omega) eR jV ir ?_;intro v5 wF bJ bw eX;have jm:=bw.size;have db:=go.out.size;have im:=rj.out.lt;have dI:Hid (Below S0 w8 wF):=jq (go.out.grown bw (by omega) (λg hg=>(im g hg).1));have oe:Hid (bF cH 7 83 S0 (λj=>S0<=j) wF v5 (l.take k)):=jq ((bJ.sameM (M':=λj=>S0<=j) (λk=>⟨λe=>e.elim id (λe=>(bJ.lt k e).1),.inl⟩)));replace q0:=aBX dI.out ((go.out.cell (p:=⟨X+1,0,none⟩) (by dsimp only;omega)).symm.trans q0);have lw:Hid (∀ gk,v5.ownBlock=some gk->gk<wF.heap.size):=jq (λgk hk=>(bJ.lt gk hk).2);have eI:Hid (Boxed wF gB 76 (.slice none 0 0)):=jq ((bw.block gB eI.out.lt (λe=>by exact gp.out (Option.some.inj e).symm)).trans eI.out);have gp:Hid (∀ gk,v5.ownBlock=some gk->gk≠gB):=jq (λgk hk e=>by
              rcases eX with h | h
              ·have h1:=Option.some.inj (h.symm.trans hk);exact gp.out (h1.trans e)
              ·have h1:=Option.some.inj (h.symm.trans hk)
               have:=gN.out
               omega)
             have gN:Hid (gB<wF.heap.size):=jq (by have:=gN.out;omega);clear bJ bw eX im db;refine fS 11 (D:=[1,2,3,4,6,7,8,9,10,0,5,13]) (val:=bI X cb co cn ck k m mc sA (.slice (some ⟨wE0,0,none⟩) 0 0) v5 undef (.pointer (some ⟨gB,0,none⟩))) eL fP (hH.next eL fP hr) (by kernel_rfl) ?_ ?_
             ·intro i aG bn o ho a' hb aF;have k5':=aEJ hb lX.out;have k20':=aEJ hb lW.out;simp[Act.eval] at k5' k20'
              repeat' (rcases aG with _ | ⟨_,aG⟩)
              all_goals first
               | (exfalso;simp at bn;done)
               | (cases ho
                  try simp[Act.eval,Region.binds,bI,ef] at aF
                  refine fw (by simp[Region.wanted]) ?_;simp[Oper.quietAt,Oper.quietUpon,execOp,go_sem,bI,k5',k20',q0,mt,ah,mq,mr,mD,hm,lM,aF])
             ·intro f listed a' hH hr hv;have av5:=hv 5;have av10:=hv 10;simp[bI,ef] at av5 av10;simp only[wpOp];simp[Region.wanted];refine .inl ?_;refine su (R:=cH) (M:=λj=>S0<=j) wF (.tmp 145) (.tmp 150) 74 rfl S0 83 ei (.agg #[.string ⟨#[]⟩,.int .i64 0,.int .i64 0,.slice none 0 0,.slice none 0 0,.string ⟨#[]⟩,.int .i64 0]) 104 underlying74 vj vl vm vn rfl (by decide) v5 (l.take k) av5 oe.out sA mc (l.drop (k+1)) (by rw[fT.out];exact av10) (tX (fJ.out wF dI.out) (by decide)) wI (by simp only[List.length_nil,bZ.out,fT.out];unfold maxLen;omega) (by simp only[List.length_nil,bZ.out,fT.out];omega) (by have:=dI.out.size;omega) eR jV ir ?_;intro v11 wG bJ bw eX;obtain⟨aL,cL,rfl⟩:=bJ.formN (n:=k+m) (by rw[List.length_append,bZ.out,fT.out]);have jm:=bw.size;have db:=dI.out.size;have im:=oe.out.lt;have lY:Hid (Below S0 w8 wG):=jq (dI.out.grown bw (by omega) (λg hg=>(im g hg).1));have mZ:Hid (bF cH 7 83 S0 (λj=>S0<=j) wG (Value.slice aL (k+m) cL) (l.take k++l.drop (k+1))):=jq ((bJ.sameM (M':=λj=>S0<=j) (λk=>⟨λe=>e.elim id (λe=>(bJ.lt k e).1),.inl⟩)));replace q0:=aBX lY.out ((dI.out.cell (p:=⟨X+1,0,none⟩) (by dsimp only;omega)).symm.trans q0);have lw:Hid (∀ gk,(Value.slice aL (k+m) cL).ownBlock=some gk->gk<wG.heap.size):=jq (λgk hk=>(bJ.lt gk hk).2);have eI:Hid (Boxed wG gB 76 (.slice none 0 0)):=jq ((bw.block gB eI.out.lt (λe=>by exact gp.out gB e.symm rfl)).trans eI.out);have gp:Hid (∀ gk,(Value.slice aL (k+m) cL).ownBlock=some gk->gk≠gB):=jq (λgk hk e=>by
               rcases eX with h | h
               ·exact gp.out gk (h ▸ hk) e
               ·have h1:=Option.some.inj (h.symm.trans hk)
                have:=gN.out
                omega)
              have gN:Hid (gB<wG.heap.size):=jq (by have:=gN.out;omega);clear bJ bw eX im db;refine fS 14 (D:=[1,2,3,4,6,7,8,9,10,12,0,5,11,13]) (val:=bI X cb co cn ck k m mc sA (.slice (some ⟨wE0,0,none⟩) 0 0) v5 (Value.slice aL (k+m) cL) (.pointer (some ⟨gB,0,none⟩))) eL fP (hH.next eL fP hr) (by kernel_rfl) ?_ ?_
              ·intro i aG bn o ho a' hb aF;have k5':=aEJ hb lX.out;have k20':=aEJ hb lW.out;simp[Act.eval] at k5' k20'
               repeat' (rcases aG with _ | ⟨_,aG⟩)
               all_goals first
                | (exfalso;simp at bn;done)
                | (cases ho
                   try simp[Act.eval,Region.binds,bI,ef] at aF
                   refine fw (by simp[Region.wanted]) ?_;simp[Oper.quietAt,Oper.quietUpon,execOp,go_sem,bI,k5',k20',q0,mt,ah,mq,mr,mD,hm,lM,aF])
              ·intro f listed a' hH hr hv;have av12:=hv 12;have av13:=hv 13;simp[Act.eval,bI,ef] at av12 av13;simp only[wpOp];simp[Region.wanted];refine .inl ?_;have bB:=eI.out.cell;have zB:=eI.out.frozen;simp[Oper.wp,execOp,go_sem,av12,av13,bB,zB];refine sr hH hr HM.out eL (by kernel_rfl) λfH=>?_
               ·rw[fH];rw[kC.out];simp[kA,Act.put,bI,ef];clear hv hH fH;obtain⟨wL,gW⟩:=aCQ (wG.setCell ⟨gB,0,none⟩ (.slice aL (k+m) cL));have GT:=gN.out;have bW:Hid (Below wz.heap.size wz wL):=jq (by rw[<-gW];exact (ew.out.trans (lY.out.mono xS)).setCell (by dsimp only;omega) _);have qf:Hid (SlR cH 7 wL wL.heap.size (.slice aL (k+m) cL) (l.take k++l.drop (k+1))):=jq (by
                 rw[<-gW];have h0:=mZ.out.leaves (w':=wG.setCell ⟨gB,0,none⟩ (.slice aL (k+m) cL)) (M':=λj=>S0<=j) eR jV ir (Leaves'.setCell _ _ (by dsimp only;exact lz.out.1) _) (λg hg=>⟨wQ _ _ _ _ (by dsimp only;exact gp.out g hg),(mZ.out.lt g hg).1⟩);exact h0.slr jV (by rw[List.length_append,bZ.out,fT.out];omega))
                have bL:wL.cell? ⟨gB,0,none⟩=some (.slice aL (k+m) cL):=by rw[<-gW];simp[go_sem,bB]
                have k0:=(cF.out.keep bW.out (by omega)) 0 _ rfl;have k1:=(cF.out.keep bW.out (by omega)) 1 _ rfl;have k2:=(cF.out.keep bW.out (by omega)) 2 _ rfl;have k3:=(cF.out.keep bW.out (by omega)) 3 _ rfl;have k4:=(cF.out.keep bW.out (by omega)) 4 _ rfl;have k5:=(cF.out.keep bW.out (by omega)) 5 _ rfl;have k6:=(cF.out.keep bW.out (by omega)) 6 _ rfl;have k7:=(cF.out.keep bW.out (by omega)) 7 _ rfl;have k8:=(cF.out.keep bW.out (by omega)) 8 _ rfl
                try rw[gW]
                clear gW bB zB q0;have pk:=jq (qa.out.trans (bW.out.mono qa.out.size));go_wp2_with fail;clear bL k0 k1 k2 k3 k4 k5 k6 k7 k8;refine (zW _ h _ (l.take k++l.drop (k+1)) t wL (iN.out.next bW.out) (y7.out.keep bW.out) qf.out (λe he=>nh.out e (lE.out.subset he))).mono ?_;rw[Np.xG ⟨gq.out,lF.out.sub lE.out,xx.out⟩];dsimp only;rw[Np.CR sD.out lE.out];rintro e wM ⟨rfl,hb⟩;have HEM:=jq (pk.out.trans (hb.mono pk.out.size));clear hb;go_wp2_with fail;exact bodyPost_ret (v:=.bool true) (by simp[results,results8,go_sem]) rfl ⟨rfl,by first | exact HEM.out | (rw[<-hX];exact HEM.out)⟩
end
end Go.Proofs.YtfnopgdcaanaiaaGreatDoor
