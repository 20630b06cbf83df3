/- No condition. -/
import Derived.Test.YtfnopgdcaanaiaaGreatDoorS09
import Derived.Test.YtfnopgdcaanaiaaGreatDoorS10
set_option linter.all false
set_option maxRecDepth 100000
set_option maxHeartbeats 8000000
namespace Go.Proofs.YtfnopgdcaanaiaaGreatDoor
open Go.Proofs.Tryz
section
open Go.RowKit
structure Np.Use(h:Np.Hist):Prop where
 copies:h.copies.length<=21
 hosts:h.hosts.length<=70
 hints:h.hints.length<=20
 data:h.anchor.data.length<=20
 each:∀ c∈h.copies,Np.oY c.zone.sets
theorem Np.qk.use{h:Np.Hist}(k:Np.qk h):Np.Use h:=
 ⟨by have:=k.1.1;omega,k.1.2.1,k.1.2.2.1,k.1.2.2.2,λc hc=>(k.2.1 c hc).1⟩
theorem Np.Use.withC{h:Np.Hist}(k:Np.Use h){l:List Np.Copy}(hl:l.length<=21)(hz:∀ d∈l,∃ c∈h.copies,d.zone=c.zone):Np.Use (Np.withC h l):=
 ⟨hl,k.hosts,k.hints,k.data,λd hd=>by
  obtain⟨c,hc,e⟩:=hz d hd;rw[e];exact k.each c hc⟩
theorem Np.pr.withC{h:Np.Hist}(k:Np.pr h){l:List Np.Copy}(hz:∀ d∈l,∃ c∈h.copies,d.zone=c.zone):Np.pr (Np.withC h l):=λd hd s hs=>by
 obtain⟨c,hc,e⟩:=hz d hd;rw[e] at hs;exact k c hc s hs
theorem Np.Use.fewH{h:Np.Hist}(k:Np.Use h):Np.tc h:=
 ⟨by have:=k.copies;omega,λc hc=>by have:=(k.each c hc).1;omega⟩
theorem Np.Use.big{h:Np.Hist}(k:Np.Use h):h.hosts.length<=100000/\h.hints.length<=100000/\h.anchor.data.length<=100000:=by
 have h1:=k.hosts;have h2:=k.hints;have h3:=k.data;omega
theorem Np.Use.sets{h:Np.Hist}(k:Np.Use h):∀ c∈h.copies,∀ x∈c.zone.sets,x.set.data.length<=100000/\x.sigs.length<=100000:=λc hc x hx=>by
 have:=(k.each c hc).2 x hx
 omega
theorem Np.aWX{l:List Np.Copy}{n:Nat}(h:∀ c∈l,c.zone.sets.length<=n)(zone:List UInt8):(Np.gx l zone).length<=l.length * n:=by
 induction l with
 | nil=>simp[Np.gx,Np.tG]
 | cons c l ih=>
  have h1:=ih (λd hd=>h d (mQ _ hd));have h2:=h c (by simp);have e:=Np.aWK [c] l zone;rw[List.singleton_append] at e;rw[e,List.length_append,List.length_cons,Nat.add_mul,Nat.one_mul];have h3:(Np.gx [c] zone).length<=n:=by
   unfold Np.gx Np.tG;rw[List.filter_cons,List.filter_nil];split
   ·simp[Np.p9];exact h2
   ·simp
  omega
theorem Np.Use.pairs{h:Np.Hist}(k:Np.Use h)(zone:List UInt8):(Np.gx h.copies zone).length<=5000:=by
 have h1:=Np.aWX (λc hc=>(k.each c hc).1) zone;have h2:=Nat.mul_le_mul_right 100 k.copies;omega
theorem Np.Use.cut{h:Np.Hist}(k:Np.qk h)(j:Nat)(a:Int):Np.Use (Np.withC h (Np.vK h.copies j a)):=
 k.use.withC (by have h1:=Np.Zj h.copies j a;have h2:=k.1.1;omega) (λd hd=>by
  obtain⟨c,hc,_,h2,_⟩:=Np.O3 hd;exact⟨c,hc,h2⟩)
theorem Np.pr.cut{h:Np.Hist}(k:Np.pr h)(j:Nat)(a:Int):Np.pr (Np.withC h (Np.vK h.copies j a)):=
 k.withC (λd hd=>by
  obtain⟨c,hc,_,h2,_⟩:=Np.O3 hd;exact⟨c,hc,h2⟩)
end
section
open Go.RowKit Go.Shelf

end
section
open Go.RowKit
theorem Rg{x:List UInt8}(h:Np.al x=true):x≠[]:=by
 rintro rfl;exact absurd h (by decide)
def Rf:Value->List UInt8
 | .string s=>s.data.toList
 | _=>[]
theorem Zi(a:ByteArray)(ha:a.size<=140737488355328)(A:Option Addr)(n c:Nat)(l:List Np.Signed)(hn:l.length=n)(hz:Np.VZone ⟨a.data.toList,l⟩)(s:ByteArray)(hs:s.size<=140737488355328)(hv:Np.al s.data.toList=true)(hu:Np.aX s.data.toList a.data.toList=true)(w:World)(hR:gq w w.heap.size)(hd:SlR br 5 w w.heap.size (.slice A n c) l) :
 Calls prog 188 #[.agg #[.string a,.slice A n c],.string s] w
  λe w'=>∃ (p:ByteArray) (b:Bool),e = .returned (.tuple #[.string p,.bool b,.int .i64 0])/\p.size<=140737488355328/\(b=true->Np.al p.data.toList=true/\p.size<=140737488355328/\Np.fS l p.data.toList 2)/\(s.data.toList=a.data.toList->b=false)/\Below w.heap.size w w':=by
 have HN:=jq hn;have HZ:=jq hz;have HV:=jq hv;have HU:=jq hu;have HR:=jq hR;have HD:=jq hd;have NA:Hid (Np.al a.data.toList=true):=jq (Np.uG hz).1;have iZ:=jq (Lr (Np.VZone.inOrder hz.right));have dV:Hid (∀ x∈l,Np.al x.set.name=true):=jq (λx hx=>zO ((Np.uG hz).2 x hx));have dZ:Hid (l.length<=20000):=jq hz.few;have bS:n<=20000:=by rw[<-hn];exact hz.few
 clear hn hz hv hu hR hd;obtain⟨X,hX⟩:=afZ w.heap.size;obtain⟨w1,am⟩:=afZ (w.alloc (.cells #[.string a,.slice A n c] 44));have aF:Hid (Below X w w1):=jq (by rw[<-am,<-hX];exact blAl);have bF:X+1<=w1.heap.size:=by rw[<-am];simp[hX]
 have DZ:=jq (eb [.string a,.slice A n c] 44 hX am);have Mh:Hid (∀ {w':World},Below X w w'->Below w.heap.size w w'):=jq (λh=>by rw[hX];exact h);have j0:=DZ.out 0 _ rfl;have j1:=DZ.out 1 _ rfl;go_enter func188,ntmps188;go_wp2_with fail;clear am;refine (nameValid_any s hs _).mono ?_;rintro e w2 ⟨rfl,hb⟩;rw[HV.out];have aO:=hb.size;have ah:=aeX aF hb;have pq:=jq (DZ.out.keep hb (by omega));clear hb;replace j0:=pq.out 0 _ rfl;replace j1:=pq.out 1 _ rfl;go_wp2_with fail;have hval:=L0 a ha (.slice A n c) l dZ.out w2 (by have:=HR.out.keep (by rw[hX];exact ah.out);exact this.more (by omega)) (HD.out.later aP bK (by rw[hX];exact ah.out));rw[Np.bV HZ.out] at hval;refine hval.mono ?_;rintro e w3 ⟨rfl,hb⟩;have dR:=hb.size;have aw:=aeX ah hb;have D0:=jq (pq.out.keep hb (by omega));clear hb hval;replace j0:=D0.out 0 _ rfl;replace j1:=D0.out 1 _ rfl;go_wp2_with fail;refine (zN s a hs ha w3 HV.out NA.out).mono ?_;rintro e w4 ⟨rfl,hb⟩;rw[HU.out];have fz:=hb.size;have bi:=aeX aw hb;have vB:=jq (D0.out.keep hb (by omega));clear hb;replace j0:=vB.out 0 _ rfl;replace j1:=vB.out 1 _ rfl;obtain⟨Y,hY⟩:=afZ w4.heap.size;obtain⟨w5,aK⟩:=afZ (w4.alloc (.cells #[.string a,.slice A n c] 263));have cg:Hid (Below X w w5):=jq (by rw[<-aK];exact bi.out.alloc (by omega) _);have lB:Y+1<=w5.heap.size:=by rw[<-aK];simp[hY]
 have XL:Hid (ic w5 X [.string a,.slice A n c]):=jq (by rw[<-aK];exact vB.out.keep (blAl) (by omega));have XR:=jq (eb [.string a,.slice A n c] 263 hY aK);have AX:Hid (X+1<=Y):=jq (by omega);clear fz dR aO bF DZ pq D0 vB aF ah aw bi;have hXY:=AX.out;go_wp2_with fail
 try rw[aK]
 try clear aK
 go_loopw [10] (λv wr=>∃ p:ByteArray,v = .string p/\p.size<=140737488355328/\Hid (Np.al p.data.toList=true/\Np.aX p.data.toList a.data.toList=true/\(s.data.toList=a.data.toList->p.data.toList=a.data.toList))/\Hid (Below w5.heap.size w5 wr)) (λv _=>(Np.bO (Rf v)).length)
 case atStart=>exact⟨s,rfl,hs,jq ⟨HV.out,HU.out,λh=>h⟩,jq (vQ _ _)⟩
 case round=>
  obtain⟨p,rfl,wS,HP,bp⟩:=hrel;have zy:=bp.out.size;have Oa:=jq (XL.out.keep bp.out (by omega));have Oc:=jq (XR.out.keep bp.out (by omega));have cn:=jq (cg.out.trans (bp.out.mono (by have:=cg.out.size;omega)));have d0:=Oa.out 0 _ rfl;have d1:=Oa.out 1 _ rfl;have y0:=Oc.out 0 _ rfl;have y1:=Oc.out 1 _ rfl;by_cases sD:p=a
  ·have av:(!p.toList == a.toList)=false:=by simp[sD]
   clear sD;go_wp2_with fail;exact bodyPost_ret (v:=.tuple #[.string ⟨#[]⟩,.bool false,.int .i64 0]) (by simp[results,results188,go_sem]) rfl ⟨_,_,rfl,by decide,λh=>absurd h (by decide),λ_=>rfl,Mh.out cn.out⟩
  ·have dY:p.data.toList≠a.data.toList:=λh=>sD (iC h);have av:(!p.toList == a.toList)=true:=by
    rw[dQ,dQ];simpa using dY
   have gl:=jq dY;clear dY sD;have HF:=jq (I9 a (.slice A n c) l dZ.out dV.out iZ.out p wS 2 HP.out.1 wr (HD.out.later aP bK (by rw[hX];exact cn.out)));obtain⟨b,hb⟩:=afZ (Np.yes (Np.fS l p.data.toList 2));rw[hb] at HF
   cases b with
   | true=>
    have HK:Hid (Np.fS l p.data.toList 2):=jq (Np.eZ.1 hb);clear hb;go_wp2_with fail;refine HF.out.mono ?_;rintro e w7 ⟨rfl,hb⟩;have cZ:=jq (cn.out.trans (hb.mono (by have:=cn.out.size;omega)));clear hb;go_wp2_with fail;exact bodyPost_ret (v:=.tuple #[.string p,.bool true,.int .i64 0]) (by simp[results,results188,go_sem]) rfl ⟨_,_,rfl,wS,λ_=>⟨HP.out.1,wS,HK.out⟩,λh=>absurd (HP.out.2.2 h) gl.out,Mh.out cZ.out⟩
   | false=>
    clear hb;go_wp2_with fail;refine HF.out.mono ?_;rintro e w7 ⟨rfl,hb⟩;have cZ:=jq (bp.out.trans (hb.mono zy));clear hb;have un:=Np.SU HP.out.1 (Rg NA.out) HP.out.2.1 gl.out;have n7:=jq un;clear un;go_wp2_with fail;refine (SO p wS HP.out.1 n7.out.1 w7).mono ?_;rintro e w8 ⟨q,rfl,hq,nH,hb⟩;have fd:=jq (cZ.out.trans (hb.mono cZ.out.size));have HQ:=jq hq;clear hb hq;go_wp2_with fail;go_roundw
    case rel=>exact⟨q,rfl,nH,jq ⟨by rw[HQ.out];exact (Np.FK HP.out.1 n7.out.1).1,by rw[HQ.out];exact n7.out.2,λh=>absurd (HP.out.2.2 h) gl.out⟩,fd⟩
    case measure=>
     show (Np.bO q.data.toList).length<(Np.bO p.data.toList).length;rw[HQ.out];exact Np.SR HP.out.1 n7.out.1
end
section
open Go.RowKit Go.Shelf
attribute [local go_sem] Oper.semAt_some
structure PV where
 host:Int
 str:ByteArray
 A:Option Addr
 n:Nat
 c:Nat
def PV.cells(x:PV):Array Value:=#[.int .i64 x.host,.string x.str,.slice x.A x.n x.c]
structure PVOf(w:World)(B:Nat)(x:PV)(c:Np.Placed):Prop where
 host:x.host=c.host
 apex:x.str.data.toList=c.zone.apex
 size:x.str.size<=140737488355328
 sets:SlR br 5 w B (.slice x.A x.n x.c) c.zone.sets
 len:c.zone.sets.length=x.n
theorem PVOf.keep{w w':World}{B:Nat}{x:PV}{c:Np.Placed}(h:PVOf w B x c)(hb:Below B w w'):PVOf w' B x c:=⟨h.host,h.apex,h.size,h.sets.keep aP hb,h.len⟩
theorem PVOf.more{w:World}{B B':Nat}{x:PV}{c:Np.Placed}(h:PVOf w B x c)(hb:B<=B'):PVOf w B' x c:=⟨h.host,h.apex,h.size,h.sets.more bK hb,h.len⟩
theorem a0Z{w:World}{B n c:Nat}{A:Option Addr}{xs:List Np.Placed}(h:SlR jb 3 w B (.slice A n c) xs):∃ L:List (Int×PV×Np.Placed),L.map (·.2.2)=xs/\L.length=n/\∀ (i:Nat) x,L[i]?=some x->x.1=(i:Int)/\PVOf w B x.2.1 x.2.2/\∃ b o,A=some ⟨b,o,none⟩/\b<B/\cA w b (o+i * 3) x.2.1.cells.toList:=by
 have hn:n=xs.length:=by
  obtain⟨A',c',hA,_,_,_⟩:=h;simp only[Value.slice.injEq] at hA;exact hA.2.1
 have be:∀ k,k<=xs.length->∃ L:List (Int×PV×Np.Placed),L.map (·.2.2)=xs.take k/\∀ (i:Nat) x,L[i]?=some x->x.1=(i:Int)/\PVOf w B x.2.1 x.2.2/\∃ b o,A=some ⟨b,o,none⟩/\b<B/\cA w b (o+i * 3) x.2.1.cells.toList:=by
  intro k
  induction k with
  | zero=>exact λ_=>⟨[],by simp,λi x hx=>by simp at hx⟩
  | succ k ih=>
   intro hk;obtain⟨L,h1,h2⟩:=ih (by omega);have hlen:L.length=k:=by have:=Qd List.length h1;simp at this;omega
   obtain⟨b,o,s,v,hA,hb,hs,ay,hv,f0,f1,f2⟩:=FL h (aQ (by omega:k<xs.length));obtain⟨Az,cz,rfl,_,_⟩:=ak hv;refine⟨L ++ [((k:Int),⟨xs[k].host,s,Az,xs[k].zone.sets.length,cz⟩,xs[k])],by rw[List.map_append,h1,fQ (by omega)];rfl,λi x hx=>?_⟩;rcases Nat.lt_or_ge i L.length with ab | oD
   ·rw[List.getElem?_append_left ab] at hx;exact h2 i x hx
   ·rw[oQ oD] at hx;have h0:i - L.length=0:=by have:=(cQ.1 hx).1;simp at this;omega
    rw[h0] at hx;simp at hx;subst hx;obtain rfl:i=k:=by omega
    refine⟨rfl,⟨rfl,hs,ay,hv,rfl⟩,b,o,hA,hb,λj u hj=>?_⟩
    match j,hj with
    | 0,hj=>simp[PV.cells] at hj;subst hj;exact f0
    | 1,hj=>simp[PV.cells] at hj;subst hj;exact f1
    | 2,hj=>simp[PV.cells] at hj;subst hj;exact f2
    | j+3,hj=>simp[PV.cells] at hj
 obtain⟨L,h1,h2⟩:=be xs.length (bQ _);rw[List.take_length] at h1;exact⟨L,h1,by rw[hn,<-h1,List.length_map],h2⟩
theorem bpX(a1 a2 a3 a4 a5 a6 a7:Value)(pf:FuncId)(caps:Array Value)(w:World) :
 Calls prog 113 #[.agg #[a1,a2,a3,a4,a5,a6,a7],.func (.func pf) #[] caps] w λe w'=>e = .returned (.func (.func 183) #[] #[.pointer (some ⟨w.heap.size,0,none⟩),.pointer (some ⟨w.heap.size+1,0,none⟩)])/\w'=(w.alloc (.cells #[a1,a2,a3,a4,a5,a6,a7] 68)).alloc (.cells #[.func (.func pf) #[] caps] 179):=by
 go_enter func113,ntmps113;go_wp2_with fail;go_ret;exact⟨rfl,rfl⟩
theorem bpY(L:List (Int×PV×Np.Placed))(p:Int×PV×Np.Placed->Bool)(pf:FuncId)(caps:Array Value)(X Ob n c:Nat)(Dr:Nat->Prop)(A:Option Addr)(w:World)(hX:Dr X)(hO:Dr Ob)(kX:w.cell? ⟨X,1,none⟩=some (.slice A n c))(kO:w.cell? ⟨Ob,0,none⟩=some (.func (.func pf) #[] caps))(BE:L.length=n)(Kp:n<=500)
 (hL:∀ (i:Nat) x,L[i]?=some x->x.1=(i:Int)/\∃ b o,A=some ⟨b,o,none⟩/\Dr b/\cA w b (o+i * 3) x.2.1.cells.toList) (eg:∀ args w,(callFunc pf args).run prog w = .ok (.enter pf args) w)
 (hp:∀ x∈L,∀ W,dI Dr w W->Calls prog pf (#[.agg x.2.1.cells]++caps) W λe W'=>e = .returned (.bool (p x))/\Below W.heap.size W W') :
 Bb prog 183 (λy=>#[y,.pointer (some ⟨X,0,none⟩),.pointer (some ⟨Ob,0,none⟩)]) (λx:Int×PV×Np.Placed=>#[.int .i64 x.1,.agg x.2.1.cells]) (L.filter p) Dr w:=by
 intro l J Jx S W hW hJ Js hY hS hS' h0;have k1:=(hW.cell (p:=⟨X,1,none⟩) hX).trans kX;have HW:=jq hW;have HL:=jq hL;have HP:=jq hp;have jz:=jq BE;have KO:=jq kO;have qM:=hW.1;clear hW hL hp kX BE kO;refine callsIn_of_wp func183 rfl trivial ?_ rfl;simp only[ntmps183,List.size_toArray,List.length_cons,List.length_nil,Nat.reduceAdd,Nat.reduceSub,Array.replicate_succ,Array.replicate_zero,List.push_toArray,List.append_toArray,List.nil_append,List.cons_append];gi_wp2_with fail;gi_loopw [9] (λi wr=>∃ (k:Nat) (S1:Nat->Prop),k<=n/\i = .int .i64 k/\J ((L.take k).filter p) S1 wr/\(∀ k,S1 k->k<wr.heap.size)/\(∀ k,S1 k->S k\/W.heap.size<=k)/\Hid (dI Dr w wr)/\W.heap.size<=wr.heap.size) (λi _=>n - (intOf i).toNat)
 case atStart=>exact⟨0,S,jQ _,rfl,by simpa using h0,hS',λ_ e=>.inl e,HW,bQ _⟩
 case round=>
  obtain⟨k,S1,hk,rfl,hj,dG,bR,bp,ay⟩:=hrel;by_cases ab:k<n
  ·obtain⟨x,ae⟩:∃ x,L[k]?=some x:=⟨_,aQ (by rw[jz.out];exact ab)⟩;obtain⟨tY,b,o,rfl,hb,hce⟩:=HL.out k x ae;have gw:dI Dr w wr:=bp.out;obtain⟨xi,⟨xh,xs,xA,xn,xc⟩,cc⟩:=x;obtain rfl:xi=(k:Int):=tY;have f0:wr.cell? ⟨b,o+k * 3,none⟩=some (.int .i64 xh):=(gw.cell (p:=⟨b,o+k * 3,none⟩) hb).trans (hce 0 _ rfl);have f1:wr.cell? ⟨b,o+k * 3+1,none⟩=some (.string xs):=(gw.cell (p:=⟨b,o+k * 3+1,none⟩) hb).trans (hce 1 _ rfl);have f2:wr.cell? ⟨b,o+k * 3+2,none⟩=some (.slice xA xn xc):=(gw.cell (p:=⟨b,o+k * 3+2,none⟩) hb).trans (hce 2 _ rfl);have rr:=jq ae;clear hce ae;have cj:(0:Int)<=(k:Int):=by omega
   have ck:(k:Int)<(n:Int):=by omega
   obtain⟨w2,aj⟩:=afZ (wr.alloc (.cells #[.int .i64 xh,.string xs,.slice xA xn xc] 72));have aO:w2.heap.size=wr.heap.size+1:=by rw[<-aj];simp
   have aa:Below wr.heap.size wr w2:=by rw[<-aj];exact blAl
   have p0:w2.cell? ⟨wr.heap.size,0,none⟩=some (.int .i64 xh):=by rw[<-aj];simp[go_sem]
   have p1:w2.cell? ⟨wr.heap.size,1,none⟩=some (.string xs):=by rw[<-aj];simp[go_sem]
   have p2:w2.cell? ⟨wr.heap.size,2,none⟩=some (.slice xA xn xc):=by rw[<-aj];simp[go_sem]
   have xg:dI Dr w w2:=gw.of_below aa;have qO:=(xg.cell (p:=⟨Ob,0,none⟩) hO).trans KO.out;have ah:=jq aa;have ew:=jq xg;clear gw aa xg;gi_wp2_with fail;refine⟨trivial,rfl,?_⟩;refine (callsIn_wide.2 (HP.out _ (gQ rr.out) w2 ew.out)).mono ?_;rintro e w3 ⟨rfl,ai⟩;replace p0:=aeK ai p0;replace p1:=aeK ai p1;replace p2:=aeK ai p2;have dR:=ai.size;have rS:Below wr.heap.size wr w3:=ah.out.trans (ai.afK);have ww:=hJ _ _ _ _ hj (ItStep.of_below rS);have aw:=jq (bp.out.of_below rS);have HT:=jq (T0 (p:=p) rr.out);clear aj ai hj qO
   cases bM:p ((k:Int),⟨xh,xs,xA,xn,xc⟩,cc) with
   | false=>
    have HX:=jq bM;clear bM rS;gi_wp2_with fail;refine⟨λ_ _=>trivial,?_⟩;gi_wp2_with fail;go_roundw
    case rel=>exact⟨k+1,S1,by omega,by go_num,by rw[HT.out,HX.out];exact ww,λk e=>by have:=dG k e;omega,bR,aw,by omega⟩
    ·simp[intOf]<;>omega
   | true=>
    have HX:=jq bM;have g8:(L.take k).filter p ++ [((k:Int),⟨xh,xs,xA,xn,xc⟩,cc)] <+: L.filter p:=by
     have h1:=HT.out;rw[HX.out,Qb rfl] at h1;rw[<-h1];exact T1 p L (k+1)
    obtain⟨fn,tmps,assign,body,hy,hR⟩:=hY ((L.take k).filter p) ((k:Int),⟨xh,xs,xA,xn,xc⟩,cc) S1 w3 g8 ww (λk e=>by have:=dG k e;omega) (by omega);have oK:Sem.run prog (Instr.yield l #[.int .i64 (k:Int),.agg #[.int .i64 xh,.string xs,.slice xA xn xc]]) w3 = .ok (.round l fn tmps assign body) w3:=hy;have If:=jq g8;clear hy g8 bM rS;gi_wp2_with fail;refine⟨rfl,hR.mono ?_⟩;rintro e w4 ⟨S4,bJ,CC,Kn,(⟨rfl,Jr⟩ | ⟨rfl,Jt⟩)⟩
    ·have bi:Hid (dI Dr w w4):=jq (aw.out.round bJ (λk e hd=>by
      rcases bR k e with e | e
      ·exact hS k e hd
      ·have:=(HW.out.2 k hd).1;omega))
     have fz:=bJ.size;clear bJ oK hR;gi_wp2_with fail;go_roundw
     case rel=>
      refine⟨k+1,S4,by omega,by go_num,by rw[HT.out,HX.out];exact Jr,Kn,λk e=>?_,bi,by omega⟩;rcases CC k e with e | e
      ·exact bR k e
      ·right;omega
     case measure=>simp[intOf]<;>omega
    ·have fz:=bJ.size;clear bJ oK hR;gi_wp2_with fail;refine bodyPost_ret (results_none rfl _ _ _) rfl ?_;refine⟨⟨_,rfl⟩,.inr ⟨_,S4,If.out,Jt,λk e=>?_⟩⟩;rcases CC k e with e | e
     ·exact bR k e
     ·right;omega
  ·have gm:Hid (L.take k=L):=jq (kQ (by rw[jz.out];omega));rw[gm.out] at hj;gi_wp2_with fail;go_end0;exact⟨⟨_,rfl⟩,.inl ⟨S1,hj,bR⟩⟩
end
end Go.Proofs.YtfnopgdcaanaiaaGreatDoor
