/- No condition. -/
import Derived.Test.YtadhigmjilijcaaGreatDoorH26
set_option linter.all false
set_option maxRecDepth 100000
set_option maxHeartbeats 8000000
namespace Go.Proofs.YtadhigmjilijcaaGreatDoor
open Go.Proofs.Tryz
section
open Go.RowKit
theorem bjX{kvs:List ((List UInt8×Int)×Value)}{l:List Np.Signed}{x:Np.Signed}(h:Np.uF kvs l)(hx:∀ y∈l,Np.bV y.set≠Np.bV x.set):kvs.lookup (Np.bV x.set)=none/\Np.uF (kvs ++ [(Np.bV x.set,.int .i64 l.length)]) (l ++ [x]):=by
 have h0:kvs.lookup (Np.bV x.set)=none:=by
  rcases h (Np.bV x.set) with ⟨i,y,hy,hk,_⟩ | ⟨h1,_⟩
  ·exact absurd hk (hx y (gQ hy))
  ·exact h1
 refine⟨h0,λp=>?_⟩;rw[List.lookup_append];rcases h p with ⟨i,y,hy,hk,hl⟩ | ⟨h1,h2⟩
 ·refine .inl ⟨i,y,by rw[List.getElem?_append_left (cQ.1 hy).1];exact hy,hk,by rw[hl];rfl⟩
 ·by_cases hp:Np.bV x.set=p
  ·refine .inl ⟨l.length,x,by simp,hp,?_⟩;rw[h1,<-hp];simp[List.lookup]
  ·refine .inr ⟨?_,λy hy=>?_⟩
   ·rw[h1]
    have:(p == Np.bV x.set)=false:=by simp only[beq_eq_false_iff_ne,ne_eq];exact λe=>hp e.symm
    simp[List.lookup,this]
   ·rcases List.mem_append.1 hy with hy | hy
    ·exact h2 y hy
    ·simp only[List.mem_singleton] at hy;rw[hy];exact hp
theorem bjK:Np.uF [] []:=λp=>.inr ⟨rfl,λy hy=>by cases hy⟩
theorem bCJ{l:List Np.Signed}(hs:Np.te l){k:Nat}{x:Np.Signed}(hx:l[k]?=some x):∀ y∈l.take k,Np.bV y.set≠Np.bV x.set:=λy hy e=>by
 obtain⟨j,hj⟩:=List.getElem?_of_mem hy;rw[List.getElem?_take] at hj;split at hj
 ·rename_i ag
  have:=GW hs hj hx ag
  rw[e,Np.yn.self] at this;omega
 ·cases hj
theorem bfZ(ap:ByteArray)(A:Option Addr)(n c:Nat)(xs:List Np.Signed)(hn:xs.length=n)(oz:n<=20000)(hs:Np.te xs)(nm:ByteArray)(ty:Int)(w:World)(hx:SlR az 5 w w.heap.size (.slice A n c) xs) :
 Calls prog 70 #[.agg #[.string ap,.slice A n c],.agg #[.string nm,.int .i64 ty]] w λe w'=>∃ (V r:Nat) (kvs:List ((List UInt8×Int)×Value)),e = .returned (.pointer (some ⟨V,0,none⟩))/\w.heap.size<=r/\r<V/\Np.uF kvs xs/\fB r kvs w'/\
  w'.heap[V]?=some (.cells #[.string ap,.slice A n c,.map (some r),.string nm,.int .i64 ty,.string ⟨#[]⟩,.bool false,.string ⟨#[]⟩] 121 (0,0))/\Below w.heap.size w w':=by
 have HX:=jq hx;have HN:=jq hn;have HS:=jq hs;obtain⟨X,hX⟩:=aaK w.heap.size;obtain⟨wa,bo⟩:=aaK ((w.alloc (.cells #[.string ap,.slice A n c] 66)).alloc (.cells #[.string nm,.int .i64 ty] 27));have jK:wa.heap.size=X+2:=by rw[<-bo];simp[hX]
 have ul:Hid (Below X w wa):=jq (by rw[<-bo,<-hX];exact (blAl).alloc (by simp) _);have c0:wa.cell? ⟨X,0,none⟩=some (.string ap):=by rw[<-bo,<-hX];simp[go_sem]
 have c1:wa.cell? ⟨X,1,none⟩=some (.slice A n c):=by rw[<-bo,<-hX];simp[go_sem]
 have d0:wa.cell? ⟨X+1,0,none⟩=some (.string nm):=by rw[<-bo,<-hX];simp[go_sem]
 have d1:wa.cell? ⟨X+1,1,none⟩=some (.int .i64 ty):=by rw[<-bo,<-hX];simp[go_sem]
 have pk:∀ (w:World),(Instr.makeMap 119 (some (.int .i64 n))).run prog w = .ok (.map (some w.heap.size)) (w.alloc (.map #[] 0)):=λw=>by
  simp[Instr.makeMap,asInt,asIntOf,Result.andThen]
 clear hx hn hs;go_enter func70,ntmps70;go_upto_region 1 with fail
 try rw[bo]
 clear bo;go_region;obtain⟨wb,eP⟩:=aaK (((wa.alloc (.map #[] 0)).alloc (.cells #[.string ap,.slice A n c,.map (some (X+2)),.string nm,.int .i64 ty,.string ⟨#[]⟩,.bool false,.string ⟨#[]⟩] 121)).drew);rw[eP];have Kj:Below (X+2) wa wb:=by rw[<-eP];exact (((vQ _ _).alloc (by omega) _).alloc (by simp;omega) _).drew
 have xY:wb.heap.size=X+4:=by rw[<-eP];simp[jK]
 have X3:Hid (fB (X+2) [] wb):=jq (by
  have h:=fB.made wa;rw[jK] at h;rw[<-eP];exact h.keep (n:=X+3) (((vQ _ _).alloc (by simp;omega) _).drew) (by omega))
 have HVb:Hid (wb.heap[X+2+1]?=some (.cells #[.string ap,.slice A n c,.map (some (X+2)),.string nm,.int .i64 ty,.string ⟨#[]⟩,.bool false,.string ⟨#[]⟩] 121 (0,0))):=jq (by
  rw[<-eP]
  have:=heap_alloc_new (wa.alloc (.map #[] 0)) (.cells #[.string ap,.slice A n c,.map (some (X+2)),.string nm,.int .i64 ty,.string ⟨#[]⟩,.bool false,.string ⟨#[]⟩] 121)
  simp only[World.size_alloc,jK] at this;exact this)
 have AV:=aaZ ul Kj;have q1:wb.cell? ⟨X,1,none⟩=some (.slice A n c):=aaQ Kj c1;clear Kj eP c0 c1 d0 d1 pk;go_wp2_with fail;clear q1;go_loopw [22] (λi wr=>∃ k:Nat,k<=n/\i = .int .i64 k/\X+4<=wr.heap.size/\Hid (Below X w wr)/\Hid (wr.heap[X+2+1]?=some (.cells #[.string ap,.slice A n c,.map (some (X+2)),.string nm,.int .i64 ty,.string ⟨#[]⟩,.bool false,.string ⟨#[]⟩] 121 (0,0)))/\∃ kvs,Hid (fB (X+2) kvs wr)/\Hid (Np.uF kvs (xs.take k))) (λi _=>n - (intOf i).toNat)
 case atStart=>exact⟨0,by omega,rfl,by omega,AV,HVb,[],X3,jq bjK⟩
 case round=>
  obtain⟨k,hk,rfl,aB,HB,HV,kvs,HM,HP⟩:=hrel;obtain⟨ws,rfl⟩:=aaX wr;by_cases ag:k<n
  ·obtain⟨x,fl⟩:∃ x,xs[k]?=some x:=⟨_,aQ (by rw[HN.out];exact ag)⟩;obtain⟨b,o,c2,s,dv,sv,hA,cO,_,aP,_,aV,aZ,e0,e1,e2,e3,e4⟩:=dN (HX.out.later ax aK (by rw[hX];exact HB.out)) fl;simp only[Value.slice.injEq] at hA;obtain⟨rfl,-,rfl⟩:=hA;obtain⟨dA,dn,dc,rfl,_,_,_⟩:=yj aV;obtain⟨gA,gn,gc,rfl,_,_,_⟩:=yj aZ;have bU:=jq aP;have tb:=jq fl;have df:=kNN k;have dg:(k:Int)<(n:Int):=by omega
   obtain⟨E,hE⟩:=aaK ws.heap.size;obtain⟨wc,sm⟩:=aaK (ws.alloc (.cells #[.string s,.int .i64 x.set.type,.int .i64 x.set.life,.slice dA dn dc,.slice gA gn gc] 44));clear fl aV aZ aP;go_upto_region 5 with fail
   have To:wc.heap.size=E+1:=by rw[<-sm];simp[hE]
   have iM:Below ws.heap.size ws wc:=by rw[<-sm];exact blAl
   have J1:=fD [_,_,_,_,_] (show wc.heap[E]?=some (.cells #[.string s,.int .i64 x.set.type,.int .i64 x.set.life,.slice dA dn dc,.slice gA gn gc] 44 (0,0)) by rw[<-sm,<-hE];exact heap_alloc_new _ _);have Eb:=jq (HB.out.trans (iM.mono (by have:=HB.out.size;omega)));have Oz:=jq ((iM.block (X+2+1) (by omega)).trans HV.out);have X4:=jq (HM.out.keep iM (by omega));have m0:=J1 0 _ rfl;have m1:=J1 1 _ rfl;have v2:=fD [_,_,_,_,_,_,_,_] Oz.out 2 _ rfl;clear sm iM J1 e0 e1 e2 e3 e4;go_still_tail 12,(by kernel_rfl);have fZ:(xs.take k).length=k:=by rw[List.length_take,HN.out];omega
   obtain⟨dL,F9⟩:=bjX HP.out (bCJ HS.out tb.out);rw[fZ] at F9;have Sc:Np.bV x.set=(s.data.toList,x.set.type):=by rw[bU.out];rfl
   have Rx:xs.take (k+1)=xs.take k ++ [x]:=by
    obtain⟨hl,he⟩:=cQ.1 tb.out;rw[fQ hl,he]
   have rr:Hid (Np.uF (kvs ++ [(Np.bV x.set,.int .i64 k)]) (xs.take (k+1))):=jq (by rw[Rx];exact F9);have Hn:Hid (Below X w wc.drew):=jq Eb.out.drew;clear F9 Rx;change wpList prog _ _ _ _ wc.drew;refine Vw wc.drew rfl _ _ _ 119 rfl 3 underlying119 (X+2) kvs rfl (X4.out.keep' (w':=wc.drew) rfl) (Np.bV x.set) (by rw[Sc,Al];rfl) (.int .i64 k) rfl dL ?_;intro wU So Gg;have X2:=jq So;have rn:=jq (Hn.out.trans (Gg.below (n:=X) (by omega)));have Tm:X+4<=wU.heap.size:=by rw[Gg.size];simp;omega
   have Z9:=jq ((Gg.block (X+2+1) (by omega)).trans Oz.out);clear So Gg dL Sc m0 m1 v2;go_wp2_with fail;go_roundw
   case rel=>exact⟨k+1,by omega,by go_num,Tm,rn,Z9,_,X2,rr⟩
   ·simp[intOf]<;>omega
  ·obtain rfl:k=n:=by omega
   have NX:Hid (Np.uF kvs xs):=jq (by have:=HP.out;rwa [kQ (by rw[HN.out];omega)] at this);have Q8:Below w.heap.size w ws:=by rw[hX];exact HB.out
   have nV:=jq Q8;have kZ:w.heap.size<=X+2:=by omega
   clear ag Q8;go_wp2_with fail;go_ret;exact⟨X+2+1,X+2,kvs,rfl,kZ,by omega,NX.out,HM.out,HV.out,nV.out⟩
end
end Go.Proofs.YtadhigmjilijcaaGreatDoor
