/- Parts of the proof. No condition. -/
import Derived.LaidLaws
import Derived.Stop.LaidErr
import Derived.Test.YtbfbobfbgabjiaaGreatDoorP34
import Derived.Test.YtbfbobfbgabjiaaGreatDoorP37
import Derived.Test.YtbfbobfbgabjiaaGreatDoorP38
import Derived.Test.YtbfbobfbgabjiaaGreatDoorP40
set_option linter.all false
set_option maxRecDepth 100000
set_option maxHeartbeats 8000000
namespace Go.Proofs.YtbfbobfbgabjiaaGreatDoor
open Go.Proofs.Tryz
section
open Go.RowKit
noncomputable def Np.di(h:Np.Hist)(z:List UInt8):Int×List Np.Held:=if Np.yes (Np.jP h z) then (if Np.yes (Np.mA h z) then (0,Np.pub h.copies z) else (4,[])) else (1,[])
noncomputable def Np.fy(h:Np.Hist)(z:List UInt8)(addr:Int):Int×List Np.Span:=if Np.yes (Np.jP h z) then (if Np.pK h.hosts addr<0 then (4,[]) else (0,Np.qW h.copies z (Np.pK h.hosts addr))) else (1,[])
noncomputable def Np.mR(h:Np.Hist):Int×List (List UInt8):=if Np.yes (Np.VHist h) then (0,Np.apexes h.copies) else (1,[])
theorem Np.Fh{h:Np.Hist}{z:List UInt8}(k:¬ Np.jP h z):Np.di h z=(1,[]):=by unfold Np.di; rw[Np.aJ k]; rfl
theorem Np.CC{h:Np.Hist}{z:List UInt8}(k:Np.jP h z)(k2:¬ Np.mA h z):Np.di h z=(4,[]):=by unfold Np.di; rw[Np.bM k,Np.aJ k2]; rfl
theorem Np.CD{h:Np.Hist}{z:List UInt8}(k:Np.jP h z)(k2:Np.mA h z):Np.di h z=(0,Np.pub h.copies z):=by unfold Np.di; rw[Np.bM k,Np.bM k2]; rfl
theorem Np.zw{h:Np.Hist}(k:Np.VHist h):Np.mR h=(0,Np.apexes h.copies):=by unfold Np.mR; rw[Np.bM k]; rfl
theorem Np.aRZ{h:Np.Hist}(k:¬ Np.VHist h):Np.mR h=(1,[]):=by unfold Np.mR; rw[Np.aJ k]; rfl
theorem Np.aHZ{h:Np.Hist}{z:List UInt8}{a:Int}(k:¬ Np.jP h z):Np.fy h z a=(1,[]):=by unfold Np.fy; rw[Np.aJ k]; rfl
theorem Np.FF{h:Np.Hist}{z:List UInt8}{a:Int}(k:Np.jP h z):Np.fy h z a=if Np.pK h.hosts a<0 then (4,[]) else (0,Np.qW h.copies z (Np.pK h.hosts a)):=by unfold Np.fy; rw[Np.bM k]; rfl
structure mr(w:World)(e:List Value)(h:Np.Hist):Prop where
 rh:bA w w.heap.size e h
 use:Np.Use h
 sums:Np.lj h
theorem mr.keep{w w':World}{e:List Value}{h:Np.Hist}(k:mr w e h)(hb:Below w.heap.size w w'):mr w' e h:=
 ⟨de _ _ _ _ _ (da _ _ _ _ _ k.rh hb) hb.size,k.use,k.sums⟩
structure iP(n:Nat)(w:World):Prop where
 rules:iS w n
 pow:iC w
 lt:2<n
theorem iP.keep{n:Nat}{w w':World}(k:iP n w)(hb:Below n w w'):iP n w':=⟨k.rules.keep hb,k.pow.keepAt hb k.lt,k.lt⟩
theorem iP.more{n m:Nat}{w:World}(k:iP n w)(h:n<=m):iP m w:=⟨k.rules.more h,k.pow,lQ k.lt h⟩
theorem iP.next{w w':World}(k:iP w.heap.size w)(hb:Below w.heap.size w w'):iP w'.heap.size w':=(k.keep hb).more hb.size
theorem aEJ(l:List Np.Copy)(z:List UInt8)(k:Int):(Np.qW l z k).length<=l.length:=by
 unfold Np.qW;refine yQ (Fb _) ?_;rw[List.length_map];exact List.length_filter_le _ _
theorem Vh{h:Np.Hist}(v:Np.VHist h):∀ x∈Np.apexes h.copies,x.length<=140737488355328:=λx hx=>by
 obtain⟨c,hc,rfl⟩:=Np.E6.1 hx;have h1:=(Np.Lj (v.each c hc).zone).1
 have:=(Np.yX h1).1
 omega
theorem Vf(l:List Np.Copy):(Np.apexes l).length<=l.length:=by
 unfold Np.apexes;rw[(Np.KL _).length_eq]
 have:=Np.zp (l.map (·.zone.apex))
 rwa [List.length_map] at this
theorem aK.around{base n:Nat}{w:World}{v:Value}{ps:List Np.Span}(h:aK base w v ps)(hn:n<=base)(hl:ps.length<=140737488355328):fI fk 2 0 n w v ps:=λM hM=>by
 have h1:aK base (bj w M) v ps:=fU h (λg hg=>lF (λe=>by have:=hM g e; have:=(World.ownsRow.lt h g hg).1; omega));have h2:=h1.slr hl;rwa [gU] at h2
theorem cE.around{base n:Nat}{w:World}{v:Value}{ps:List (List UInt8)}(h:cE base w v ps)(hn:n<=base)(hl:ps.length<=140737488355328)(hs:∀ x∈ps,x.length<=140737488355328):fI RTx 1 0 n w v ps:=λM hM=>by
 have h1:cE base (bj w M) v ps:=fU h (λg hg=>lF (λe=>by have:=hM g e; have:=(World.ownsRow.lt h g hg).1; omega));have h2:=h1.slr hl hs;rwa [gU] at h2
structure WAt(n:Nat)(w:World)(e:List Value)(x:Np.WorldP)(A1:Option Addr)(n1 c1:Nat)(A2:Option Addr)(n2 c2:Nat)(s:ByteArray)(ty lf:Int)(A3:Option Addr)(n3 c3:Nat)(A4:Option Addr)(n4 c4:Nat):Prop where
 val:e = [.slice A1 n1 c1,.slice A2 n2 c2,.string s,.int .i64 ty,.int .i64 lf,.slice A3 n3 c3,.slice A4 n4 c4]
 all:rG w w.heap.size e x
 zones:fI jm 3 0 n w (.slice A2 n2 c2) x.zones
 len:x.zones.length=n2
theorem aNX{n:Nat}{w:World}{e:List Value}{x:Np.WorldP}(h:CO rG 0 n w e x):∃ A1 n1 c1 A2 n2 c2 s ty lf A3 n3 c3 A4 n4 c4,WAt n w e x A1 n1 c1 A2 n2 c2 s ty lf A3 n3 c3 A4 n4 c4:=by
 have h0:=h.all aCJ;have h0':=h0;obtain⟨hv,zv,s,dv,dh,rfl,_,_,h1,h2,h3,h4⟩:=h0';obtain⟨A1,c1,rfl,_⟩:=ah h1;obtain⟨A2,c2,rfl,_⟩:=ah h2;obtain⟨A3,c3,rfl,_⟩:=ah h3;obtain⟨A4,c4,rfl,_⟩:=ah h4;refine⟨A1,_,c1,A2,_,c2,s,_,_,A3,_,c3,A4,_,c4,rfl,h0,λM hM=>?_,rfl⟩;obtain⟨lz,zv2,s2,dv2,aZY,he,_,_,_,hz,_,_⟩:=h M hM;simp only[List.cons.injEq] at he;rw[he.2.1];exact hz
theorem WAt.keep{n:Nat}{w w':World}{e:List Value}{x:Np.WorldP}{A1:Option Addr}{n1 c1:Nat}{A2:Option Addr}{n2 c2:Nat}{s:ByteArray}{ty lf:Int}{A3:Option Addr}{n3 c3:Nat}{A4:Option Addr}{n4 c4:Nat}(h:WAt n w e x A1 n1 c1 A2 n2 c2 s ty lf A3 n3 c3 A4 n4 c4)(hb:Below w.heap.size w w'):WAt n w' e x A1 n1 c1 A2 n2 c2 s ty lf A3 n3 c3 A4 n4 c4:=
 ⟨h.val,aCZ _ _ _ _ _ (aCQ _ _ _ _ _ h.all hb) hb.size,h.zones.keep fV fW hb,h.len⟩
theorem cAt(e:List Value)(h:Np.Hist)(t:Int)(w:World)(hV:iP w.heap.size w)(k:mr w e h) :
 Calls prog 12 #[.agg e.toArray,.int .i64 t] w λe w'=>∃ A1 n1 c1 A2 n2 c2 s ty lf A3 n3 c3 A4 n4 c4,e = .returned (.tuple #[.agg #[.slice A1 n1 c1,.slice A2 n2 c2,.string s,.int .i64 ty,.int .i64 lf,.slice A3 n3 c3,.slice A4 n4 c4],.int .i64 (Np.atE h t)])/\WAt w.heap.size w' [.slice A1 n1 c1,.slice A2 n2 c2,.string s,.int .i64 ty,.int .i64 lf,.slice A3 n3 c3,.slice A4 n4 c4] (Np.atW h t) A1 n1 c1 A2 n2 c2 s ty lf A3 n3 c3 A4 n4 c4/\Below w.heap.size w w':=
 (Vo e h k.use.fewH k.use.big k.use.sets t w hV.rules k.rh).mono λe w' ⟨e',h1,h2,h3⟩=>by
   obtain⟨A1,n1,c1,A2,n2,c2,s,ty,lf,A3,n3,c3,A4,n4,c4,h4⟩:=aNX h2;obtain rfl:=h4.val;exact⟨A1,n1,c1,A2,n2,c2,s,ty,lf,A3,n3,c3,A4,n4,c4,h1,h4,h3⟩
theorem vH(e:List Value)(h:Np.Hist)(z:ByteArray)(hz:z.size<=140737488355328)(w:World)(hV:iP w.heap.size w)(k:mr w e h) :
 Calls prog 20 #[.agg e.toArray,.string z] w λe w'=>∃ A n c,e = .returned (.tuple #[.slice A n c,.int .i64 (Np.di h z.data.toList).1])/\(Np.di h z.data.toList).2.length=n/\fI oh 8 0 w.heap.size w' (.slice A n c) (Np.di h z.data.toList).2/\Below w.heap.size w w':=
 (asJ e h k.use.fewH k.sums z hz (k.use.pairs _) w hV.rules hV.pow k.rh).mono λe w' ⟨h1,h2⟩=>by
   rcases h1 with ⟨n1,rfl⟩ | ⟨n1,⟨n2,rfl⟩ | ⟨n2,v',rfl,h3⟩⟩
   ·rw[Np.Fh n1]; exact⟨_,_,_,rfl,rfl,fI.nil _ _ _ _,h2⟩
   ·rw[Np.CC n1 n2]; exact⟨_,_,_,rfl,rfl,fI.nil _ _ _ _,h2⟩
   ·rw[Np.CD n1 n2];obtain⟨A,c,rfl⟩:=h3.form;exact⟨_,_,_,rfl,rfl,h3,h2⟩
theorem x8(e:List Value)(h:Np.Hist)(z:ByteArray)(hz:z.size<=140737488355328)(addr:Int)(w:World)(hV:iP w.heap.size w)(k:mr w e h) :
 Calls prog 22 #[.agg e.toArray,.string z,.int .i64 addr] w λe w'=>∃ A n c,e = .returned (.tuple #[.slice A n c,.int .i64 (Np.fy h z.data.toList addr).1])/\(Np.fy h z.data.toList addr).2.length=n/\fI fk 2 0 w.heap.size w' (.slice A n c) (Np.fy h z.data.toList addr).2/\Below w.heap.size w w':=
 (aEK e h k.use.fewH z hz addr w hV.rules k.rh).mono λe w' ⟨h1,h2⟩=>by
   rcases h1 with ⟨n1,rfl⟩ | ⟨n1,n2,⟨n3,rfl⟩ | ⟨n3,v',rfl,h3⟩⟩
   ·rw[Np.aHZ (λk=>by
     rcases n1 with n1 | n1
     ·exact n1 k.1
     ·rw[k.2] at n1; cases n1)]
    exact⟨_,_,_,rfl,rfl,fI.nil _ _ _ _,h2⟩
   ·rw[Np.FF ⟨n1,n2⟩,Qb n3]; exact⟨_,_,_,rfl,rfl,fI.nil _ _ _ _,h2⟩
   ·rw[Np.FF ⟨n1,n2⟩,Qc n3];have h4:=h3.around (bQ _) (by have h4:=aEJ h.copies z.data.toList (Np.pK h.hosts addr); have h5:=k.use.copies; omega);obtain⟨A,c,rfl⟩:=h4.form;exact⟨_,_,_,rfl,rfl,h4,h2⟩
theorem AQ(e:List Value)(h:Np.Hist)(w:World)(hV:iP w.heap.size w)(k:mr w e h) :
 Calls prog 14 #[.agg e.toArray] w λe w'=>∃ A n c,e = .returned (.tuple #[.slice A n c,.int .i64 (Np.mR h).1])/\(Np.mR h).2.length=n/\fI RTx 1 0 w.heap.size w' (.slice A n c) (Np.mR h).2/\Below w.heap.size w w':=
 (aRY e h k.use.fewH w hV.rules k.rh).mono λe w' ⟨h1,h2⟩=>by
   rcases h1 with ⟨n1,v',rfl,h3⟩ | ⟨n1,rfl⟩
   ·rw[Np.zw n1];have h4:=h3.around (bQ _) (by have h4:=Vf h.copies; have h5:=k.use.copies; omega) (Vh n1);obtain⟨A,c,rfl⟩:=h4.form;exact⟨_,_,_,rfl,rfl,h4,h2⟩
   ·rw[Np.aRZ n1]; exact⟨_,_,_,rfl,rfl,fI.nil _ _ _ _,h2⟩
def mS(w:World)(X:Nat)(L:List Value):Prop:=∀ i v,L[i]?=some v->w.cell? ⟨X,i,none⟩=some v
theorem mS.keep{w w':World}{X B:Nat}{L:List Value}(h:mS w X L)(hb:Below B w w')(hX:X<B):mS w' X L:=λi v hi=>(hb.cell (p:=⟨X,i,none⟩) hX).trans (h i v hi)
theorem fm{w w':World}{X:Nat}(l:List Value)(T:TypeId)(hn:w.heap.size=X)(he:w.alloc (.cells l.toArray T)=w'):mS w' X l:=λi v hi=>by
 have:=lk l T hn he.symm i v hi
 rwa [Nat.zero_add] at this
theorem Np.WK:Np.Use Np.exH:=⟨by decide,by decide,by decide,by decide,λc hc=>by
 simp only[Np.exH,Np.pp,List.mem_cons,Qh,or_false] at hc;rcases hc with rfl | rfl | rfl <;> exact⟨by decide,λx hx=>by
  simp only[Np.dl,List.mem_cons,Qh,or_false] at hx;rcases hx with rfl | rfl <;> decide⟩⟩
theorem Np.WJ:Np.lj Np.exH:=λc hc x hx g hg=>by
 simp only[Np.exH,Np.pp,List.mem_cons,Qh,or_false] at hc;rcases hc with rfl | rfl | rfl <;> (simp only[Np.dl,List.mem_cons,Qh,or_false] at hx; rcases hx with rfl | rfl <;> simp[Np.sN,Np.oS] at hg)
theorem Np.AZ(t:Int)(h:0<=t/\t<40):Np.atE Np.exH t=0/\Np.atW Np.exH t=Np.oT Np.exH t:=by
 have k:Np.lG Np.exH t:=⟨Np.ye,h⟩;exact⟨(Np.qq k).2,(Np.qq k).1⟩
theorem Np.Ww:Np.atE Np.exH 40=1:=(Np.vE (λk:Np.lG Np.exH 40=>by have:=k.2.2; exact absurd this (by decide))).2
theorem Np.WD:Np.di Np.exH [120]=(0,Np.pub Np.pp [120]):=Np.CD ⟨Np.ye,by decide⟩ ⟨_,List.mem_cons_self ..,rfl⟩
theorem Np.WE:Np.di Np.exH [121]=(4,[]):=Np.CC ⟨Np.ye,by decide⟩ (λ⟨c,hc,h⟩=>by
 have:c∈Np.nj Np.pp [121]:=List.mem_filter.2 ⟨hc,by rw[h]; rfl⟩
 rw[Np.WB] at this
 cases this)
theorem Np.WH:Np.fy Np.exH [120] 2=(0,[⟨5,20⟩]):=by
 rw[Np.FF ⟨Np.ye,by decide⟩,Qc (by decide)];exact Qd (Prod.mk 0) Np.WG
theorem Np.WI:Np.fy Np.exH [120] 3=(4,[]):=by
 rw[Np.FF ⟨Np.ye,by decide⟩,Qb (by decide)]
theorem Np.WL:Np.mR Np.exH=(0,[[120]]):=by
 rw[Np.zw Np.ye];exact Qd (Prod.mk 0) Np.WM
theorem Np.Wy:Np.sR Np.yd:=⟨by decide,λc hc=>by
 simp only[Np.yd,List.mem_cons,Qh,or_false] at hc;rcases hc with rfl | rfl | rfl <;> decide⟩
theorem OneAt.past{n cb:Nat}{w W W':World}{b:Nat}{l:List Value}(h:OneAt n w b l)(hb:Below w.heap.size w W)(ht:Turned cb W W')(hc:cb<n):b<W'.heap.size/\cR W' b 0 l:=
 ⟨by rw[ht.size]; exact lQ h.hi hb.size,(h.keep hb).cells.move (ht.block b (by have:=h.lo; omega))⟩
theorem CI:eH RTx:=λ_ _ _ _ _ _ _ h=>h
theorem aRJ(b:Nat)(w:World):(Instr.field 56 (.agg #[.string ⟨#[120]⟩,.slice (some ⟨b,0,none⟩) 2 2]) 1).run prog w = .ok (.slice (some ⟨b,0,none⟩) 2 2) w:=by
 simp[Instr.field,run_underlying underlying56,Result.andThen,go_sem,asAgg]
theorem Jl(w:World)(hV:iP w.heap.size w):Calls prog 10 #[] w λe w'=>e = .returned (.bool true)/\Below w.heap.size w w':=by
 go_enter func10,ntmps10;go_wp2_with fail;refine (WN w).mono ?_;rintro e w1 ⟨e',hb,cb,db,ib,v1,v2,v3,rfl,hex,cV⟩;obtain rfl:=hex.val;have uN:=jq hex;have gg:=hex.copies.hi;have aw:=jq cV;have gq:=jq (hV.next cV);have lN:=jq hV;have LT:Hid (mr w1 [.slice (some ⟨hb,0,none⟩) 2 2,.slice (some ⟨cb,0,none⟩) 3 3,.string ⟨#[46]⟩,.int .i64 6,.int .i64 60,.slice (some ⟨db,0,none⟩) 1 1,.slice (some ⟨ib,0,none⟩) 1 1,.int .i64 0,.int .i64 40] Np.exH):=jq ⟨hex.rhist,Np.WK,Np.WJ⟩;have fS:=cV.size;obtain⟨X,hX⟩:∃ X,w1.heap.size=X:=⟨_,rfl⟩;obtain⟨w2,aj⟩:∃ w2,w1.alloc (.cells #[.slice (some ⟨hb,0,none⟩) 2 2,.slice (some ⟨cb,0,none⟩) 3 3,.string ⟨#[46]⟩,.int .i64 6,.int .i64 60,.slice (some ⟨db,0,none⟩) 1 1,.slice (some ⟨ib,0,none⟩) 1 1,.int .i64 0,.int .i64 40] 29)=w2:=⟨_,rfl⟩;have aM:w2.heap.size=X+1:=by rw[<-aj,<-hX]; simp
 have ap:Below w1.heap.size w1 w2:=by rw[<-aj]; exact (vQ _ _).alloc (bQ _) _
 have bw:=jq (fm _ _ hX aj);have ay:=jq ap;have jN:=jq (gq.out.next ap);have LU:=jq (LT.out.keep ap);clear cV ap hex hV;have k0:=bw.out 0 _ rfl; have k1:=bw.out 1 _ rfl; have k2:=bw.out 2 _ rfl; have k3:=bw.out 3 _ rfl; have k4:=bw.out 4 _ rfl; have k5:=bw.out 5 _ rfl; have k6:=bw.out 6 _ rfl; have k7:=bw.out 7 _ rfl; have k8:=bw.out 8 _ rfl;go_wp2_with fail;clear aj;refine (cAt _ Np.exH 10 w2 jN.out LU.out).mono ?_;rintro e w3 ⟨A1a,n1a,c1a,A2a,n2a,c2a,sa,tya,lfa,A3a,n3a,c3a,A4a,n4a,c4a,rfl,hw',hb'⟩;have Ma:Hid (n2a=2/\(Np.atW Np.exH 10).zones = [⟨0,Np.dl 2⟩,⟨1,Np.dl 1⟩]):=jq (by have h1:=hw'.len; rw[(Np.AZ 10 (by decide)).2,Np.NF] at h1; exact⟨h1.symm,by rw[(Np.AZ 10 (by decide)).2,Np.NF]⟩);obtain rfl:=Ma.out.1;rw[(Np.AZ 10 (by decide)).1];have xZ:=jq hw';clear hw';have er:=hb'.size;have al:=jq hb';have mx:=jq (jN.out.next hb');have sW:=jq (LU.out.keep hb');have bP:=jq (bw.out.keep hb' (by omega));clear hb';replace k0:=bP.out 0 _ rfl; replace k1:=bP.out 1 _ rfl; replace k2:=bP.out 2 _ rfl; replace k3:=bP.out 3 _ rfl; replace k4:=bP.out 4 _ rfl; replace k5:=bP.out 5 _ rfl; replace k6:=bP.out 6 _ rfl; replace k7:=bP.out 7 _ rfl; replace k8:=bP.out 8 _ rfl;obtain⟨Ya,tC⟩:∃ Y,w3.heap.size=Y:=⟨_,rfl⟩;obtain⟨w4,bE⟩:∃ w',w3.alloc (.cells #[.slice A1a n1a c1a,.slice A2a 2 c2a,.string sa,.int .i64 tya,.int .i64 lfa,.slice A3a n3a c3a,.slice A4a n4a c4a] 34)=w':=⟨_,rfl⟩;have hb':Below w3.heap.size w3 w4:=by rw[<-bE]; exact (vQ _ _).alloc (bQ _) _
 have hz':w4.heap.size=Ya+1:=by rw[<-bE,<-tC]; simp
 have Ui:=jq (fm _ _ tC bE);have gC:=hb'.size;have ar:=jq hb';have qn:=jq (mx.out.next hb');have sX:=jq (sW.out.keep hb');have dj:=jq (bP.out.keep hb' (by omega));clear hb';replace k0:=dj.out 0 _ rfl; replace k1:=dj.out 1 _ rfl; replace k2:=dj.out 2 _ rfl; replace k3:=dj.out 3 _ rfl; replace k4:=dj.out 4 _ rfl; replace k5:=dj.out 5 _ rfl; replace k6:=dj.out 6 _ rfl; replace k7:=dj.out 7 _ rfl; replace k8:=dj.out 8 _ rfl;go_wp2_with fail;clear bE;refine (cAt _ Np.exH 30 w4 qn.out sX.out).mono ?_;rintro e w5 ⟨A1b,n1b,c1b,A2b,n2b,c2b,sb,tyb,lfb,A3b,n3b,c3b,A4b,n4b,c4b,rfl,hw',hb'⟩;have XB:n2b=0:=by have h1:=hw'.len; rw[(Np.AZ 30 (by decide)).2,Np.Wz] at h1; exact h1.symm
 obtain rfl:=XB;rw[(Np.AZ 30 (by decide)).1];have MG:=jq hw';clear hw';have me:=hb'.size;have bq:=jq hb';have rA:=jq (qn.out.next hb');have rn:=jq (sX.out.keep hb');have cC:=jq (dj.out.keep hb' (by omega));clear hb';replace k0:=cC.out 0 _ rfl; replace k1:=cC.out 1 _ rfl; replace k2:=cC.out 2 _ rfl; replace k3:=cC.out 3 _ rfl; replace k4:=cC.out 4 _ rfl; replace k5:=cC.out 5 _ rfl; replace k6:=cC.out 6 _ rfl; replace k7:=cC.out 7 _ rfl; replace k8:=cC.out 8 _ rfl;obtain⟨Yb,Bq⟩:∃ Y,w5.heap.size=Y:=⟨_,rfl⟩;obtain⟨w6,bK⟩:∃ w',w5.alloc (.cells #[.slice A1b n1b c1b,.slice A2b 0 c2b,.string sb,.int .i64 tyb,.int .i64 lfb,.slice A3b n3b c3b,.slice A4b n4b c4b] 34)=w':=⟨_,rfl⟩;have hb':Below w5.heap.size w5 w6:=by rw[<-bK]; exact (vQ _ _).alloc (bQ _) _
 have hz':w6.heap.size=Yb+1:=by rw[<-bK,<-Bq]; simp
 have Uj:=jq (fm _ _ Bq bK);have il:=hb'.size;have cS:=jq hb';have rB:=jq (rA.out.next hb');have ro:=jq (rn.out.keep hb');have cD:=jq (cC.out.keep hb' (by omega));clear hb';replace k0:=cD.out 0 _ rfl; replace k1:=cD.out 1 _ rfl; replace k2:=cD.out 2 _ rfl; replace k3:=cD.out 3 _ rfl; replace k4:=cD.out 4 _ rfl; replace k5:=cD.out 5 _ rfl; replace k6:=cD.out 6 _ rfl; replace k7:=cD.out 7 _ rfl; replace k8:=cD.out 8 _ rfl;go_wp2_with fail;clear bK;refine (cAt _ Np.exH 40 w6 rB.out ro.out).mono ?_;rintro e w7 ⟨A1c,n1c,c1c,A2c,n2c,c2c,sc,tyc,lfc,A3c,n3c,c3c,A4c,n4c,c4c,rfl,hw',hb'⟩;rw[Np.Ww];clear hw';have mL:=hb'.size;have ca:=jq hb';have tg:=jq (rB.out.next hb');have uR:=jq (ro.out.keep hb');have dL:=jq (cD.out.keep hb' (by omega));clear hb';replace k0:=dL.out 0 _ rfl; replace k1:=dL.out 1 _ rfl; replace k2:=dL.out 2 _ rfl; replace k3:=dL.out 3 _ rfl; replace k4:=dL.out 4 _ rfl; replace k5:=dL.out 5 _ rfl; replace k6:=dL.out 6 _ rfl; replace k7:=dL.out 7 _ rfl; replace k8:=dL.out 8 _ rfl;obtain⟨Yc,Oi⟩:∃ Y,w7.heap.size=Y:=⟨_,rfl⟩;obtain⟨w8,ik⟩:∃ w',w7.alloc (.cells #[.slice A1c n1c c1c,.slice A2c n2c c2c,.string sc,.int .i64 tyc,.int .i64 lfc,.slice A3c n3c c3c,.slice A4c n4c c4c] 34)=w':=⟨_,rfl⟩;have hb':Below w7.heap.size w7 w8:=by rw[<-ik]; exact (vQ _ _).alloc (bQ _) _
 have hz':w8.heap.size=Yc+1:=by rw[<-ik,<-Oi]; simp
 have HPc:=jq (fm _ _ Oi ik);have sC:=hb'.size;have dJ:=jq hb';have vp:=jq (tg.out.next hb');have xM:=jq (uR.out.keep hb');have eh:=jq (dL.out.keep hb' (by omega));clear hb';replace k0:=eh.out 0 _ rfl; replace k1:=eh.out 1 _ rfl; replace k2:=eh.out 2 _ rfl; replace k3:=eh.out 3 _ rfl; replace k4:=eh.out 4 _ rfl; replace k5:=eh.out 5 _ rfl; replace k6:=eh.out 6 _ rfl; replace k7:=eh.out 7 _ rfl; replace k8:=eh.out 8 _ rfl;go_wp2_with fail;clear ik;refine (AQ _ Np.exH w8 vp.out xM.out).mono ?_;rintro e w9 ⟨Az,nz,cz,rfl,hn',hs',hb'⟩;rw[Np.WL] at hn' hs' |-;dsimp only at hn' hs' |-;obtain rfl:nz=1:=hn'.symm;have UD:=jq hs';clear hs';have yR:=hb'.size;have eF:=jq hb';have vq:=jq (vp.out.next hb');have sY:=jq (xM.out.keep hb');have ei:=jq (eh.out.keep hb' (by omega));clear hb';replace k0:=ei.out 0 _ rfl; replace k1:=ei.out 1 _ rfl; replace k2:=ei.out 2 _ rfl; replace k3:=ei.out 3 _ rfl; replace k4:=ei.out 4 _ rfl; replace k5:=ei.out 5 _ rfl; replace k6:=ei.out 6 _ rfl; replace k7:=ei.out 7 _ rfl; replace k8:=ei.out 8 _ rfl;go_wp2_with fail;refine (vH _ Np.exH ⟨#[120]⟩ (by decide) w9 vq.out sY.out).mono ?_;rintro e w10 ⟨Ap,np,cp,rfl,hn',hs',hb'⟩;rw[(Np.WD:Np.di Np.exH (⟨#[120]⟩:ByteArray).data.toList=_),Np.WC] at hn' hs' |-;dsimp only at hn' hs' |-;obtain rfl:np=3:=hn'.symm;have UB:=jq hs';clear hs';have EV:=hb'.size;have du:=jq hb';have vn:=jq (vq.out.next hb');have xK:=jq (sY.out.keep hb');have ee:=jq (ei.out.keep hb' (by omega));clear hb';replace k0:=ee.out 0 _ rfl; replace k1:=ee.out 1 _ rfl; replace k2:=ee.out 2 _ rfl; replace k3:=ee.out 3 _ rfl; replace k4:=ee.out 4 _ rfl; replace k5:=ee.out 5 _ rfl; replace k6:=ee.out 6 _ rfl; replace k7:=ee.out 7 _ rfl; replace k8:=ee.out 8 _ rfl;go_wp2_with fail;refine (vH _ Np.exH ⟨#[121]⟩ (by decide) w10 vn.out xK.out).mono ?_;rintro e w11 ⟨Aq,nq,cq,rfl,hn',hs',hb'⟩;rw[(Np.WE:Np.di Np.exH (⟨#[121]⟩:ByteArray).data.toList=_)] at hn' hs' |-;dsimp only at hn' hs' |-;clear hn' hs';have PR:=hb'.size;have gF:=jq hb';have xY:=jq (vn.out.next hb');have xL:=jq (xK.out.keep hb');have ef:=jq (ee.out.keep hb' (by omega));clear hb';replace k0:=ef.out 0 _ rfl; replace k1:=ef.out 1 _ rfl; replace k2:=ef.out 2 _ rfl; replace k3:=ef.out 3 _ rfl; replace k4:=ef.out 4 _ rfl; replace k5:=ef.out 5 _ rfl; replace k6:=ef.out 6 _ rfl; replace k7:=ef.out 7 _ rfl; replace k8:=ef.out 8 _ rfl;go_wp2_with fail;refine (x8 _ Np.exH ⟨#[120]⟩ (by decide) 2 w11 xY.out xL.out).mono ?_;rintro e w12 ⟨As,ns,cs,rfl,hn',hs',hb'⟩;rw[(Np.WH:Np.fy Np.exH (⟨#[120]⟩:ByteArray).data.toList 2=_)] at hn' hs' |-;dsimp only at hn' hs' |-;obtain rfl:ns=1:=hn'.symm;have UC:=jq hs';clear hs';have PU:=hb'.size;have mU:=jq hb';have Dm:=jq (xY.out.next hb');have C3:=jq (xL.out.keep hb');have iq:=jq (ef.out.keep hb' (by omega));clear hb';replace k0:=iq.out 0 _ rfl; replace k1:=iq.out 1 _ rfl; replace k2:=iq.out 2 _ rfl; replace k3:=iq.out 3 _ rfl; replace k4:=iq.out 4 _ rfl; replace k5:=iq.out 5 _ rfl; replace k6:=iq.out 6 _ rfl; replace k7:=iq.out 7 _ rfl; replace k8:=iq.out 8 _ rfl;go_wp2_with fail;refine (x8 _ Np.exH ⟨#[120]⟩ (by decide) 3 w12 Dm.out C3.out).mono ?_;rintro e w13 ⟨At,nt,ct,rfl,hn',hs',hb'⟩;rw[(Np.WI:Np.fy Np.exH (⟨#[120]⟩:ByteArray).data.toList 3=_)] at hn' hs' |-;dsimp only at hn' hs' |-;clear hn' hs';have ZY:=hb'.size;have jF:=jq hb';have Dn:=jq (Dm.out.next hb');have C4:=jq (C3.out.keep hb');have ir:=jq (iq.out.keep hb' (by omega));clear hb';replace k0:=ir.out 0 _ rfl; replace k1:=ir.out 1 _ rfl; replace k2:=ir.out 2 _ rfl; replace k3:=ir.out 3 _ rfl; replace k4:=ir.out 4 _ rfl; replace k5:=ir.out 5 _ rfl; replace k6:=ir.out 6 _ rfl; replace k7:=ir.out 7 _ rfl; replace k8:=ir.out 8 _ rfl;go_wp2_with fail;clear k0 k1 k2 k3 k4 k5 k6 k7 k8;have wt:=aRJ;refine (uz 1 w13).mono ?_;rintro e w14 ⟨b1,d1,e1,rfl,hv',hb'⟩;have mw:=jq hv';clear hv';have ZZ:=hb'.size;have mh:=jq hb';have Do:=jq (Dn.out.next hb');have GD:=jq (C4.out.keep hb');have nW:=jq (ir.out.keep hb' (by omega));clear hb';have q0:w14.cell? ⟨b1,0,none⟩=some (.string ⟨#[120]⟩):=mw.out.row.cells 0 _ rfl;have q1:w14.cell? ⟨b1,1,none⟩=some (.int .i64 2):=mw.out.row.cells 1 _ rfl;have q2:w14.cell? ⟨b1,2,none⟩=some (.int .i64 60):=mw.out.row.cells 2 _ rfl;have q3:w14.cell? ⟨b1,3,none⟩=some (.slice (some ⟨d1,0,none⟩) 1 1):=mw.out.row.cells 3 _ rfl;have q4:w14.cell? ⟨b1,4,none⟩=some (.slice none 0 0):=mw.out.row.cells 4 _ rfl;go_wp2_with fail;refine (Jo 0 ⟨#[120]⟩ 2 60 (some ⟨d1,0,none⟩) 1 1 none 0 0 0 30 w14).mono ?_;rintro e w15 ⟨f1,rfl,hv',hb'⟩;have Gt:=jq hv';clear hv';have Z0:=hb'.size;have nT:=jq hb';have Hv:=jq (Do.out.next hb');have GE:=jq (GD.out.keep hb');have nX:=jq (nW.out.keep hb' (by omega));clear hb';go_wp2_with fail;refine (uz 1 w15).mono ?_;rintro e w16 ⟨b2,d2,e2,rfl,hv',hb'⟩;have jM:=jq hv';clear hv';have Z3:=hb'.size;have nU:=jq hb';have Hw:=jq (Hv.out.next hb');have GF:=jq (GE.out.keep hb');have nY:=jq (nX.out.keep hb' (by omega));clear hb';replace q0:w16.cell? ⟨b2,5,none⟩=some (.string ⟨#[120]⟩):=jM.out.row.cells 5 _ rfl;replace q1:w16.cell? ⟨b2,6,none⟩=some (.int .i64 4):=jM.out.row.cells 6 _ rfl;replace q2:w16.cell? ⟨b2,7,none⟩=some (.int .i64 60):=jM.out.row.cells 7 _ rfl;replace q3:w16.cell? ⟨b2,8,none⟩=some (.slice (some ⟨e2,0,none⟩) 1 1):=jM.out.row.cells 8 _ rfl;replace q4:w16.cell? ⟨b2,9,none⟩=some (.slice none 0 0):=jM.out.row.cells 9 _ rfl;go_wp2_with fail;refine (Jo 1 ⟨#[120]⟩ 4 60 (some ⟨e2,0,none⟩) 1 1 none 0 0 0 20 w16).mono ?_;rintro e w17 ⟨f2,rfl,hv',hb'⟩;have ri:=jq hv';clear hv';have a7K:=hb'.size;have p7:=jq hb';have UG:=jq (Hw.out.next hb');have Tr:=jq (GF.out.keep hb');have SN:=jq (nY.out.keep hb' (by omega));clear hb';go_wp2_with fail;refine (uz 2 w17).mono ?_;rintro e w18 ⟨b3,d3,e3,rfl,hv',hb'⟩;have xU:=jq hv';clear hv';have a7X:=hb'.size;have oX:=jq hb';have UH:=jq (UG.out.next hb');have Ts:=jq (Tr.out.keep hb');have SO:=jq (SN.out.keep hb' (by omega));clear hb';replace q0:w18.cell? ⟨b3,5,none⟩=some (.string ⟨#[120]⟩):=xU.out.row.cells 5 _ rfl;replace q1:w18.cell? ⟨b3,6,none⟩=some (.int .i64 4):=xU.out.row.cells 6 _ rfl;replace q2:w18.cell? ⟨b3,7,none⟩=some (.int .i64 60):=xU.out.row.cells 7 _ rfl;replace q3:w18.cell? ⟨b3,8,none⟩=some (.slice (some ⟨e3,0,none⟩) 1 1):=xU.out.row.cells 8 _ rfl;replace q4:w18.cell? ⟨b3,9,none⟩=some (.slice none 0 0):=xU.out.row.cells 9 _ rfl;go_wp2_with fail;refine (Jo 2 ⟨#[120]⟩ 4 60 (some ⟨e3,0,none⟩) 1 1 none 0 0 10 30 w18).mono ?_;rintro e w19 ⟨f3,rfl,hv',hb'⟩;have Td:=jq hv';clear hv';have a7Y:=hb'.size;have nV:=jq hb';have UI:=jq (UH.out.next hb');have Tt:=jq (Ts.out.keep hb');have SQ:=jq (SO.out.keep hb' (by omega));clear hb';obtain⟨yw,PN⟩:∃ Y,w19.heap.size=Y:=⟨_,rfl⟩;obtain⟨w20,EQ⟩:∃ w',w19.alloc (.cells #[.string ⟨#[120]⟩,.string ⟨#[120]⟩,.int .i64 2,.int .i64 60,.slice (some ⟨d1,0,none⟩) 1 1,.slice none 0 0,.slice (some ⟨f1,0,none⟩) 1 1,.slice none 0 0,.string ⟨#[120]⟩,.string ⟨#[120]⟩,.int .i64 4,.int .i64 60,.slice (some ⟨e2,0,none⟩) 1 1,.slice none 0 0,.slice (some ⟨f2,0,none⟩) 1 1,.slice none 0 0,.string ⟨#[120]⟩,.string ⟨#[120]⟩,.int .i64 4,.int .i64 60,.slice (some ⟨e3,0,none⟩) 1 1,.slice none 0 0,.slice (some ⟨f3,0,none⟩) 1 1,.slice none 0 0] 70)=w':=⟨_,rfl⟩;have hb':Below w19.heap.size w19 w20:=by rw[<-EQ]; exact (vQ _ _).alloc (bQ _) _
 have hs':w20.heap.size=yw+1:=by rw[<-EQ,<-PN]; simp
 have Sk:Hid (OneAt (cb+1) w20 yw [.string ⟨#[120]⟩,.string ⟨#[120]⟩,.int .i64 2,.int .i64 60,.slice (some ⟨d1,0,none⟩) 1 1,.slice none 0 0,.slice (some ⟨f1,0,none⟩) 1 1,.slice none 0 0,.string ⟨#[120]⟩,.string ⟨#[120]⟩,.int .i64 4,.int .i64 60,.slice (some ⟨e2,0,none⟩) 1 1,.slice none 0 0,.slice (some ⟨f2,0,none⟩) 1 1,.slice none 0 0,.string ⟨#[120]⟩,.string ⟨#[120]⟩,.int .i64 4,.int .i64 60,.slice (some ⟨e3,0,none⟩) 1 1,.slice none 0 0,.slice (some ⟨f3,0,none⟩) 1 1,.slice none 0 0]):=jq ⟨by omega,by omega,lk _ _ PN EQ.symm⟩;have Z6:=hb'.size;have mV:=jq hb';have UJ:=jq (UI.out.next hb');have Tu:=jq (Tt.out.keep hb');have ST:=jq (SQ.out.keep hb' (by omega));clear hb';go_wp2_with fail;clear EQ;refine (uz 2 w20).mono ?_;rintro e w21 ⟨b4,d4,e4,rfl,hv',hb'⟩;have Uq:=jq hv';clear hv';have a8Q:=hb'.size;have mi:=jq hb';have UK:=jq (UJ.out.next hb');have Tv:=jq (Tu.out.keep hb');have SU:=jq (ST.out.keep hb' (by omega));clear hb';go_wp2_with fail;refine (uz 1 w21).mono ?_;rintro e w22 ⟨b5,d5,e5,rfl,hv',hb'⟩;have Ur:=jq hv';clear hv';have a8Z:=hb'.size;have lI:=jq hb';have UL:=jq (UK.out.next hb');have Tw:=jq (Tv.out.keep hb');have SV:=jq (SU.out.keep hb' (by omega));clear hb';obtain⟨yp,sB⟩:∃ Y,w22.heap.size=Y:=⟨_,rfl⟩;obtain⟨w23,J4⟩:∃ w',w22.alloc (.cells #[.int .i64 0,.string ⟨#[120]⟩,.slice (some ⟨b4,0,none⟩) 2 2,.int .i64 1,.string ⟨#[120]⟩,.slice (some ⟨b5,0,none⟩) 2 2] 60)=w':=⟨_,rfl⟩;have hb':Below w22.heap.size w22 w23:=by rw[<-J4]; exact (vQ _ _).alloc (bQ _) _
 have hs':w23.heap.size=yp+1:=by rw[<-J4,<-sB]; simp
 have Sj:Hid (OneAt (cb+1) w23 yp [.int .i64 0,.string ⟨#[120]⟩,.slice (some ⟨b4,0,none⟩) 2 2,.int .i64 1,.string ⟨#[120]⟩,.slice (some ⟨b5,0,none⟩) 2 2]):=jq ⟨by omega,by omega,lk _ _ sB J4.symm⟩;have a8J:=hb'.size;have kV:=jq hb';have aTX:=jq (UL.out.next hb');have aSK:=jq (Tw.out.keep hb');have LG:=jq (SV.out.keep hb' (by omega));clear hb';have gk:Hid (Below w1.heap.size w1 w23):=jq ((ay.out.trans ((al.out.trans ((ar.out.trans ((bq.out.trans ((cS.out.trans ((ca.out.trans ((dJ.out.trans ((eF.out.trans ((du.out.trans ((gF.out.trans ((mU.out.trans ((jF.out.trans ((mh.out.trans ((nT.out.trans ((nU.out.trans ((p7.out.trans ((oX.out.trans ((nV.out.trans ((mV.out.trans ((mi.out.trans ((lI.out.trans (kV.out.mono (by omega))).mono (by omega))).mono (by omega))).mono (by omega))).mono (by omega))).mono (by omega))).mono (by omega))).mono (by omega))).mono (by omega))).mono (by omega))).mono (by omega))).mono (by omega))).mono (by omega))).mono (by omega))).mono (by omega))).mono (by omega))).mono (by omega))).mono (by omega))).mono (by omega))).mono (by omega))).mono (by omega))));have aZ:w23.heap[cb]?=some (.cells #[.int .i64 0,.int .i64 0,.int .i64 10,.string ⟨#[120]⟩,.slice (some ⟨v1,0,none⟩) 2 2,.int .i64 0,.int .i64 10,.int .i64 30,.string ⟨#[120]⟩,.slice (some ⟨v2,0,none⟩) 2 2,.int .i64 1,.int .i64 5,.int .i64 20,.string ⟨#[120]⟩,.slice (some ⟨v3,0,none⟩) 2 2] 58):=(gk.out.block cb uN.out.copies.hi).trans uN.out.obj;have j6:w23.cell? ⟨cb,6,none⟩=some (.int .i64 10):=by simp[World.cell?,aZ]
 have jf6:w23.frozen? ⟨cb,6,none⟩=false:=by simp[World.frozen?,aZ]
 have k1:=LG.out 1 _ rfl;obtain⟨w24,ER⟩:∃ w',w23.setCell ⟨cb,6,none⟩ (.int .i64 9)=w':=⟨_,rfl⟩;have HT:Hid (Turned cb w23 w24):=jq (by rw[<-ER]; exact⟨rfl,rfl,rfl,by simp[World.setCell],λi hi=>wQ _ _ _ _ hi⟩);have a8K:w24.heap.size=w23.heap.size:=HT.out.size;have em:Hid (bA w24 w24.heap.size [.slice (some ⟨hb,0,none⟩) 2 2,.slice (some ⟨cb,0,none⟩) 3 3,.string ⟨#[46]⟩,.int .i64 6,.int .i64 60,.slice (some ⟨db,0,none⟩) 1 1,.slice (some ⟨ib,0,none⟩) 1 1,.int .i64 0,.int .i64 40] Np.yd):=jq (uN.out.bad gk.out HT.out (by rw[<-ER]; simp[World.setCell,Array.getElem?_modify,aZ]));have rb:Hid (mS w24 X [.slice (some ⟨hb,0,none⟩) 2 2,.slice (some ⟨cb,0,none⟩) 3 3,.string ⟨#[46]⟩,.int .i64 6,.int .i64 60,.slice (some ⟨db,0,none⟩) 1 1,.slice (some ⟨ib,0,none⟩) 1 1,.int .i64 0,.int .i64 40]):=jq (λi v hi=>(iQ (a:=⟨X,i,none⟩) (HT.out.block X (by omega))).trans (LG.out i v hi));clear aZ;have sT:Hid (Below w.heap.size w w24):=jq (by rw[<-ER]; exact (aw.out.trans (gk.out.mono (by omega))).setCell (p:=⟨cb,6,none⟩) uN.out.copies.lo _);have UN:Hid (iP w24.heap.size w24):=jq ((lN.out.keep sT.out).more sT.out.size);have D1:=jq (mw.out.d1.past (nT.out.trans ((nU.out.trans ((p7.out.trans ((oX.out.trans ((nV.out.trans ((mV.out.trans ((mi.out.trans ((lI.out.trans (kV.out.mono (by omega))).mono (by omega))).mono (by omega))).mono (by omega))).mono (by omega))).mono (by omega))).mono (by omega))).mono (by omega))) HT.out (by omega));have D2:=jq (jM.out.d2.past (p7.out.trans ((oX.out.trans ((nV.out.trans ((mV.out.trans ((mi.out.trans ((lI.out.trans (kV.out.mono (by omega))).mono (by omega))).mono (by omega))).mono (by omega))).mono (by omega))).mono (by omega))) HT.out (by omega));have D3:=jq (xU.out.d2.past (nV.out.trans ((mV.out.trans ((mi.out.trans ((lI.out.trans (kV.out.mono (by omega))).mono (by omega))).mono (by omega))).mono (by omega))) HT.out (by omega));have G1:=jq (Gt.out.past (nU.out.trans ((p7.out.trans ((oX.out.trans ((nV.out.trans ((mV.out.trans ((mi.out.trans ((lI.out.trans (kV.out.mono (by omega))).mono (by omega))).mono (by omega))).mono (by omega))).mono (by omega))).mono (by omega))).mono (by omega))) HT.out (by omega));have G2:=jq (ri.out.past (oX.out.trans ((nV.out.trans ((mV.out.trans ((mi.out.trans ((lI.out.trans (kV.out.mono (by omega))).mono (by omega))).mono (by omega))).mono (by omega))).mono (by omega))) HT.out (by omega));have G3:=jq (Td.out.past (mV.out.trans ((mi.out.trans ((lI.out.trans (kV.out.mono (by omega))).mono (by omega))).mono (by omega))) HT.out (by omega));have YW:=jq (Sk.out.past (mi.out.trans ((lI.out.trans (kV.out.mono (by omega))).mono (by omega))) HT.out (by omega));have YP:=jq (Sj.out.past (vQ _ w23) HT.out (by omega));have Z4:=jq ((Uq.out.around.keep aN bN (lI.out.trans (kV.out.mono (by omega)))).past aN jc bN (by omega) HT.out);have Z5:=jq ((Ur.out.around.keep aN bN kV.out).past aN jc bN (by omega) HT.out);have SA:=jq ((xZ.out.zones.keep fV fW (ar.out.trans ((bq.out.trans ((cS.out.trans ((ca.out.trans ((dJ.out.trans ((eF.out.trans ((du.out.trans ((gF.out.trans ((mU.out.trans ((jF.out.trans ((mh.out.trans ((nT.out.trans ((nU.out.trans ((p7.out.trans ((oX.out.trans ((nV.out.trans ((mV.out.trans ((mi.out.trans ((lI.out.trans (kV.out.mono (by omega))).mono (by omega))).mono (by omega))).mono (by omega))).mono (by omega))).mono (by omega))).mono (by omega))).mono (by omega))).mono (by omega))).mono (by omega))).mono (by omega))).mono (by omega))).mono (by omega))).mono (by omega))).mono (by omega))).mono (by omega))).mono (by omega))).mono (by omega))).mono (by omega)))).past fV nR fW (by omega) HT.out);have SZ:=jq ((UD.out.keep iL uv (du.out.trans ((gF.out.trans ((mU.out.trans ((jF.out.trans ((mh.out.trans ((nT.out.trans ((nU.out.trans ((p7.out.trans ((oX.out.trans ((nV.out.trans ((mV.out.trans ((mi.out.trans ((lI.out.trans (kV.out.mono (by omega))).mono (by omega))).mono (by omega))).mono (by omega))).mono (by omega))).mono (by omega))).mono (by omega))).mono (by omega))).mono (by omega))).mono (by omega))).mono (by omega))).mono (by omega))).mono (by omega)))).past iL CI uv (by omega) HT.out);have SP:=jq ((UB.out.keep kN kg (gF.out.trans ((mU.out.trans ((jF.out.trans ((mh.out.trans ((nT.out.trans ((nU.out.trans ((p7.out.trans ((oX.out.trans ((nV.out.trans ((mV.out.trans ((mi.out.trans ((lI.out.trans (kV.out.mono (by omega))).mono (by omega))).mono (by omega))).mono (by omega))).mono (by omega))).mono (by omega))).mono (by omega))).mono (by omega))).mono (by omega))).mono (by omega))).mono (by omega))).mono (by omega)))).past kN zg kg (by omega) HT.out);have SS:=jq ((UC.out.keep eZ jd (jF.out.trans ((mh.out.trans ((nT.out.trans ((nU.out.trans ((p7.out.trans ((oX.out.trans ((nV.out.trans ((mV.out.trans ((mi.out.trans ((lI.out.trans (kV.out.mono (by omega))).mono (by omega))).mono (by omega))).mono (by omega))).mono (by omega))).mono (by omega))).mono (by omega))).mono (by omega))).mono (by omega))).mono (by omega)))).past eZ CH jd (by omega) HT.out);have QYa:=jq ((iQ (a:=⟨Ya,1,none⟩) (HT.out.block Ya (by omega))).trans ((Ui.out.keep (bq.out.trans ((cS.out.trans ((ca.out.trans ((dJ.out.trans ((eF.out.trans ((du.out.trans ((gF.out.trans ((mU.out.trans ((jF.out.trans ((mh.out.trans ((nT.out.trans ((nU.out.trans ((p7.out.trans ((oX.out.trans ((nV.out.trans ((mV.out.trans ((mi.out.trans ((lI.out.trans (kV.out.mono (by omega))).mono (by omega))).mono (by omega))).mono (by omega))).mono (by omega))).mono (by omega))).mono (by omega))).mono (by omega))).mono (by omega))).mono (by omega))).mono (by omega))).mono (by omega))).mono (by omega))).mono (by omega))).mono (by omega))).mono (by omega))).mono (by omega))).mono (by omega))) (by omega)) 1 _ rfl));have QYb:=jq ((iQ (a:=⟨Yb,1,none⟩) (HT.out.block Yb (by omega))).trans ((Uj.out.keep (ca.out.trans ((dJ.out.trans ((eF.out.trans ((du.out.trans ((gF.out.trans ((mU.out.trans ((jF.out.trans ((mh.out.trans ((nT.out.trans ((nU.out.trans ((p7.out.trans ((oX.out.trans ((nV.out.trans ((mV.out.trans ((mi.out.trans ((lI.out.trans (kV.out.mono (by omega))).mono (by omega))).mono (by omega))).mono (by omega))).mono (by omega))).mono (by omega))).mono (by omega))).mono (by omega))).mono (by omega))).mono (by omega))).mono (by omega))).mono (by omega))).mono (by omega))).mono (by omega))).mono (by omega))).mono (by omega))) (by omega)) 1 _ rfl));have WW:Hid (SlR oh 8 w24 w24.heap.size (.slice (some ⟨yw,0,none⟩) 3 3) [⟨[120],Np.sN,[⟨0,30⟩],[]⟩,⟨[120],Np.oS 1,[⟨0,20⟩],[]⟩,⟨[120],Np.oS 2,[⟨10,30⟩],[]⟩]):=jq (Kp (R:=oh) [.string ⟨#[120]⟩,.string ⟨#[120]⟩,.int .i64 2,.int .i64 60,.slice (some ⟨d1,0,none⟩) 1 1,.slice none 0 0,.slice (some ⟨f1,0,none⟩) 1 1,.slice none 0 0] [.string ⟨#[120]⟩,.string ⟨#[120]⟩,.int .i64 4,.int .i64 60,.slice (some ⟨e2,0,none⟩) 1 1,.slice none 0 0,.slice (some ⟨f2,0,none⟩) 1 1,.slice none 0 0] [.string ⟨#[120]⟩,.string ⟨#[120]⟩,.int .i64 4,.int .i64 60,.slice (some ⟨e3,0,none⟩) 1 1,.slice none 0 0,.slice (some ⟨f3,0,none⟩) 1 1,.slice none 0 0] rfl rfl YW.out.1 YW.out.2 ⟨⟨#[120]⟩,⟨#[120]⟩,_,_,_,_,rfl,rfl,by decide,rfl,by decide,RR D1.out.1 D1.out.2,sL _ _ _ _,pU (R:=fk) [.int .i64 0,.int .i64 30] G1.out.1 G1.out.2 rfl,sL _ _ _ _⟩ ⟨⟨#[120]⟩,⟨#[120]⟩,_,_,_,_,rfl,rfl,by decide,rfl,by decide,Lb D2.out.1 D2.out.2,sL _ _ _ _,pU (R:=fk) [.int .i64 0,.int .i64 20] G2.out.1 G2.out.2 rfl,sL _ _ _ _⟩ ⟨⟨#[120]⟩,⟨#[120]⟩,_,_,_,_,rfl,rfl,by decide,rfl,by decide,Lb D3.out.1 D3.out.2,sL _ _ _ _,pU (R:=fk) [.int .i64 10,.int .i64 30] G3.out.1 G3.out.2 rfl,sL _ _ _ _⟩);have WP:Hid (SlR jm 3 w24 w24.heap.size (.slice (some ⟨yp,0,none⟩) 2 2) [⟨0,Np.dl 2⟩,⟨1,Np.dl 1⟩]):=jq (E3 (R:=jm) [.int .i64 0,.string ⟨#[120]⟩,.slice (some ⟨b4,0,none⟩) 2 2] [.int .i64 1,.string ⟨#[120]⟩,.slice (some ⟨b5,0,none⟩) 2 2] rfl YP.out.1 YP.out.2 ⟨⟨#[120]⟩,_,rfl,by decide,Z4.out,rfl⟩ ⟨⟨#[120]⟩,_,rfl,by decide,Z5.out,rfl⟩);rw[Ma.out.2] at SA;have k0:=rb.out 0 _ rfl; have r1:=rb.out 1 _ rfl; have k2:=rb.out 2 _ rfl; have k3:=rb.out 3 _ rfl; have k4:=rb.out 4 _ rfl; have k5:=rb.out 5 _ rfl; have k6:=rb.out 6 _ rfl; have k7:=rb.out 7 _ rfl; have k8:=rb.out 8 _ rfl;go_wp2_with fail;clear r1 k0 k1 k2 k3 k4 k5 k6 k7 k8 ER j6 jf6;refine (Er _ Np.yd Np.Wy w24 UN.out.rules em.out).mono ?_;rw[Np.aJ Np.Wx];rintro e w25 ⟨rfl,hb'⟩;have a8X:=hb'.size;have GR:=jq hb';have ya:=(cl hb' (by omega)).trans QYa.out;clear hb';go_wp2_with fail;refine (Rk _ _ [⟨0,Np.dl 2⟩,⟨1,Np.dl 1⟩] w25 (SA.out.later fV fW GR.out) (WP.out.later fV fW GR.out)).mono ?_;rintro e w26 ⟨rfl,hb'⟩;have a8Y:=hb'.size;have L0:=jq (GR.out.trans (hb'.mono (by omega)));clear hb';have yb:=(cl L0.out (by omega)).trans QYb.out;obtain⟨w27,ES⟩:∃ w',w26.alloc (.cells #[.string ⟨#[120]⟩] 9)=w':=⟨_,rfl⟩;have a9Q:w27.heap.size=w26.heap.size+1:=by rw[<-ES]; simp
 have L1:Hid (Below w24.heap.size w24 w27):=jq (by rw[<-ES]; exact L0.out.alloc (by omega) _);have ht':SlR RTx 1 w27 w27.heap.size (.slice (some ⟨w26.heap.size,0,none⟩) 1 1) [[120]]:=pU (R:=RTx) [.string ⟨#[120]⟩] (by omega) (lk _ _ rfl ES.symm) ⟨⟨#[120]⟩,rfl,by decide,rfl⟩;have AC:=jq ht';clear ht';go_wp2_with fail;clear ES;refine (KW _ _ [[120]] w27 (SZ.out.later iL uv L1.out) AC.out).mono ?_;rintro e w28 ⟨rfl,hb'⟩;have a9Z:=hb'.size;have GS:=jq (L1.out.trans (hb'.mono (by omega)));clear hb';go_wp2_with fail;refine (Rj _ _ _ w28 (SP.out.later kN kg GS.out) (WW.out.later kN kg GS.out)).mono ?_;rintro e w29 ⟨rfl,hb'⟩;have a9J:=hb'.size;have TH:=jq (GS.out.trans (hb'.mono (by omega)));clear hb';go_wp2_with fail;refine (QF 5 20 w29).mono ?_;rintro e w30 ⟨fo,rfl,hf',hb'⟩;have Z7:=hb'.size;have L2:=jq (TH.out.trans (hb'.mono (by omega)));have Tg:Hid (SlR fk 2 w30 w30.heap.size (.slice (some ⟨fo,0,none⟩) 1 1) [⟨5,20⟩]):=jq (pU (R:=fk) [.int .i64 5,.int .i64 20] hf'.hi hf'.cells rfl);clear hb' hf';go_wp2_with fail;refine (zi _ _ _ _ w30 (SS.out.later eZ jd L2.out) Tg.out).mono ?_;rintro e w31 ⟨rfl,hb'⟩;have a9K:=hb'.size;have TI:=jq (L2.out.trans (hb'.mono (by omega)));clear hb';have kY:=jq (sT.out.trans (TI.out.mono (by have:=sT.out.size; omega)));go_wp2_with fail;exact bodyPost_ret (v:=.bool true) (by simp[results,results10,go_sem]) rfl ⟨rfl,kY.out⟩
end
section
open Go.ChangeShapes Go.WideShapes Go.ChangeAt Go.RowKit Go.Shelf
theorem Xf:(prog.globals[2]?).map (·.type)=some 284:=by kernel_rfl
theorem afQ:(Rows.laid_internal_strconv_uint64pow10:DataW Unit)=Lib.tabData .u64 Lib.pow10Tab:=by rfl
theorem aoK{W:World}{r:List (String×DataW Unit)}(h:laidMet prog (("internal/strconv.uint64pow10",Rows.laid_internal_strconv_uint64pow10)::r) W):iC W:=by
 rw[afQ] at h;exact Lib.tabIs_of_head IG Xf underlying284 underlying131 (by kernel_rfl) (by kernel_rfl) h
theorem J0{W:World}(h:laidMet prog Rows.historyAtRow.laid W):iP W.heap.size W:=by
 have hp:=aoK (laidMet.tail (laidMet.tail h));exact⟨aAX (laidMet.tail (laidMet.tail (laidMet.tail h))),hp,hp.lt⟩
def Ik:DataW Unit->Value
 | .lit (.int k n)=>.int k n
 | .lit (.bool b)=>.bool b
 | .lit (.string s)=>.string ⟨s.toArray⟩
 | _=>undef
def WX:DataW Unit->List Value
 | .agg m=>m.map Ik
 | d=>[Ik d]
def DQ:DataW Unit->List Value
 | .agg l=>l.flatMap WX
 | d=>[Ik d]
noncomputable def qS(os:Os):World:=
 let w0:=World.holding prog os ⟨#[],#[],[]⟩
 let put (h:Array Obj) (g:Nat) (cs:Array Value):Array Obj:=h.modify g fun
  | .cells _ t frozen=>.cells cs t frozen
  | o=>o
 let h5:=put w0.heap 2 (DQ Rows.laid_internal_strconv_uint64pow10).toArray
 let h6:=put h5 3 (DQ Rows.laid_math_bits_deBruijn32tab).toArray
 let h7:=put h6 4 (DQ Rows.laid_math_bits_deBruijn64tab).toArray
 let h8:=put h7 0 (DQ Rows.laid_nameplan_record_rules).toArray
 { w0 with heap:=h8 }
theorem Kk(os:Os)(args:Array Value):laidMet prog Rows.historyAtRow.laid ((qS os).forCall (λ_ _=>0) ⟨#[],args,[]⟩).memory:=
 laidMet_of_run' 8 (by kernel_rfl) (by kernel_rfl)
end
section
open Go.RowKit
namespace Np
theorem Fi{h:Hist}{l:List Copy}(v:VHist h)(vl:VHist (withC h l))(z:List UInt8):jP (withC h l) z↔jP h z:=
 ⟨λk=>⟨v,k.2⟩,λk=>⟨vl,k.2⟩⟩
theorem I3{h:Hist}{l:List Copy}(v:VHist h)(vl:VHist (withC h l))(s:jn l h.copies)(z:List UInt8):mA (withC h l) z↔mA h z:=
 s.zone vl.full v.full (P:=λ_ y=>y.apex=z)
theorem xr{a b:Prop}(h:a↔b):yes a=yes b:=by
 by_cases k:b
 ·rw[bM k,bM (h.2 k)]
 ·rw[aJ k,aJ (λe=>k (h.1 e))]
theorem aqZ{h:Hist}{l:List Copy}(v:VHist h)(vl:VHist (withC h l))(s:jn l h.copies)(z:List UInt8):(di (withC h l) z).1=(di h z).1:=by
 unfold di;rw[xr (Fi v vl z),xr (I3 v vl s z)]
 cases yes (jP h z) <;> cases yes (mA h z) <;> rfl
theorem aqQ{h:Hist}(v:VHist h)(k:Nat)(a:Int)(z:List UInt8):di (withC h (cU h.copies k a)) z=di h z:=by
 have vl:=Nw v k a;unfold di;rw[xr (Fi v vl z),xr (I3 v vl (Ir _ k a) z)];show (if _ then (if _ then ((0:Int),pub (cU h.copies k a) z) else _) else _)=_;rw[Wb v.full]
theorem RC{h:Hist}{l:List Copy}(v:VHist h)(vl:VHist (withC h l))(s:jn l h.copies)(z:List UInt8)(a:Int):fy (withC h l) z a=fy h z a:=by
 unfold fy;rw[xr (Fi v vl z)];show (if _ then (if pK h.hosts a<0 then _ else ((0:Int),qW l z (pK h.hosts a))) else _)=_;rw[s.serves vl.full v.full]
theorem Sc{h:Hist}{l:List Copy}(v:VHist h)(vl:VHist (withC h l))(s:jn l h.copies):mR (withC h l)=mR h:=by
 rw[zw v,zw vl];show ((0:Int),apexes l)=_;rw[s.apexes vl.full v.full]
theorem Vn{h:Hist}{l:List Copy}{t:Int}(k:lG h t)(vl:VHist (withC h l))(s:(ki l t).map im=(ki h.copies t).map im):atW (withC h l) t=atW h t/\atE (withC h l) t=0:=by
 have k2:lG (withC h l) t:=⟨vl,k.2⟩;rw[(qq k).1,(qq k2).1,(qq k2).2];refine⟨?_,rfl⟩;unfold oT;rw[show (withC h l).copies=l from rfl,s];rfl
theorem aqX{h:Hist}{z:List UInt8}(e:(di h z).1=0):jP h z/\mA h z/\(di h z).2=pub h.copies z:=by
 by_cases k:jP h z
 ·by_cases k2:mA h z
  ·rw[CD k k2]; exact⟨k,k2,rfl⟩
  ·rw[CC k k2] at e; cases e
 ·rw[Fh k] at e; cases e
theorem aqJ(h:Hist)(z:List UInt8):(di h z).1=0\/(di h z).1=1\/(di h z).1=4:=by
 by_cases k:jP h z
 ·by_cases k2:mA h z
  ·rw[CD k k2]; exact .inl rfl
  ·rw[CC k k2]; exact .inr (.inr rfl)
 ·rw[Fh k]; exact .inr (.inl rfl)
theorem aqY{h:Hist}(v:VHist h)(z:List UInt8):(di (withC h h.copies.reverse) z).2.length=(di h z).2.length/\∀ x∈(di h z).2,x∈(di (withC h h.copies.reverse) z).2:=by
 have vl:=Q9 v;have s:=Q8 h.copies;unfold di;rw[xr (Fi v vl z),xr (I3 v vl s z)]
 cases yes (jP h z)
 ·exact⟨rfl,λx hx=>hx⟩
 ·cases yes (mA h z)
  ·exact⟨rfl,λx hx=>hx⟩
  ·exact⟨arK s vl.full v.full z,λx hx=>arX (l:=h.copies) (m:=h.copies.reverse) (λP t=>(s P t).symm) v.full vl.full hx⟩
end Np
theorem CG{w:World}{B:Nat}{e:List Value}{h:Np.Hist}(k:bA w B e h):∃ A1 n1 c1 A2 n2 c2 s ty lf A3 n3 c3 A4 n4 c4 dr st,e = [.slice A1 n1 c1,.slice A2 n2 c2,.string s,.int .i64 ty,.int .i64 lf,.slice A3 n3 c3,.slice A4 n4 c4,.int .i64 dr,.int .i64 st]/\h.hosts.length=n1/\h.copies.length=n2/\h.stop=st/\SlR gb 3 w B (.slice A1 n1 c1) h.hosts/\SlR dD 5 w B (.slice A2 n2 c2) h.copies:=by
 obtain⟨hv,cv,s,dv,dh,rfl,_,_,h3,h4,h5,h6⟩:=k;obtain⟨A1,c1,rfl,_⟩:=ah h3;obtain⟨A2,c2,rfl,_⟩:=ah h4;obtain⟨A3,c3,rfl,_⟩:=ah h5;obtain⟨A4,c4,rfl,_⟩:=ah h6;exact⟨A1,_,c1,A2,_,c2,s,_,_,A3,_,c3,A4,_,c4,_,_,rfl,rfl,rfl,rfl,h3,h4⟩
def Np.tn(h:Np.Hist)(t:Int):Prop:=Np.mT h/\Np.VHist h/\0<=t/\t<h.stop
theorem K7(e:List Value)(h:Np.Hist)(t:Int)(w:World)(hh:bA w w.heap.size e h):Calls prog 26 #[.agg e.toArray,.int .i64 t] w λe w'=>e = .returned (.bool (Np.yes (Np.tn h t)))/\Below w.heap.size w w':=by
 obtain⟨A1,n1,c1,A2,n2,c2,s,ty,lf,A3,n3,c3,A4,n4,c4,dr,st,rfl,-,-,aq,-,-⟩:=CG hh;have HH:=jq hh;have cI:=jq aq;obtain⟨X,hX⟩:∃ X,w.heap.size=X:=⟨_,rfl⟩;obtain⟨w1,ak⟩:∃ w1,w.alloc (.cells #[.slice A1 n1 c1,.slice A2 n2 c2,.string s,.int .i64 ty,.int .i64 lf,.slice A3 n3 c3,.slice A4 n4 c4,.int .i64 dr,.int .i64 st] 29)=w1:=⟨_,rfl⟩;have bL:w1.heap.size=X+1:=by rw[<-ak,<-hX]; simp
 have aw:Hid (Below w.heap.size w w1):=jq (by rw[<-ak]; exact (vQ _ _).alloc (bQ _) _);have bJ:=jq (fm _ _ hX ak);have sV:Hid (bA w1 w1.heap.size [.slice A1 n1 c1,.slice A2 n2 c2,.string s,.int .i64 ty,.int .i64 lf,.slice A3 n3 c3,.slice A4 n4 c4,.int .i64 dr,.int .i64 st] h):=jq (de _ _ _ _ _ (da _ _ _ _ _ HH.out aw.out) aw.out.size);clear hh aq;have k0:=bJ.out 0 _ rfl; have k1:=bJ.out 1 _ rfl; have k2:=bJ.out 2 _ rfl; have k3:=bJ.out 3 _ rfl; have k4:=bJ.out 4 _ rfl; have k5:=bJ.out 5 _ rfl; have k6:=bJ.out 6 _ rfl; have k7:=bJ.out 7 _ rfl; have k8:=bJ.out 8 _ rfl;go_enter func26,ntmps26;go_wp2_with fail;clear ak;refine (WO _ h w1 sV.out).mono ?_;rintro e w2 ⟨rfl,hb⟩;have aM:=hb.size;have al:=jq hb;have bw:=jq (bJ.out.keep hb (by omega));have qh:=jq (de _ _ _ _ _ (da _ _ _ _ _ sV.out hb) hb.size);clear hb;replace k0:=bw.out 0 _ rfl; replace k1:=bw.out 1 _ rfl; replace k2:=bw.out 2 _ rfl; replace k3:=bw.out 3 _ rfl; replace k4:=bw.out 4 _ rfl; replace k5:=bw.out 5 _ rfl; replace k6:=bw.out 6 _ rfl; replace k7:=bw.out 7 _ rfl; replace k8:=bw.out 8 _ rfl;by_cases hF:Np.mT h
 ·have HF:=jq hF;rw[Np.bM hF];clear hF;go_wp2_with fail;refine (awK _ h HF.out.use.fewH w2 qh.out).mono ?_;rintro e w3 ⟨rfl,hb⟩;have er:=hb.size;have bP:=jq (bw.out.keep hb (by omega));have ar:Hid (Below w.heap.size w w3):=jq (aw.out.trans ((al.out.trans (hb.mono (by omega))).mono aw.out.size));clear hb;replace k0:=bP.out 0 _ rfl; replace k1:=bP.out 1 _ rfl; replace k2:=bP.out 2 _ rfl; replace k3:=bP.out 3 _ rfl; replace k4:=bP.out 4 _ rfl; replace k5:=bP.out 5 _ rfl; replace k6:=bP.out 6 _ rfl; replace k7:=bP.out 7 _ rfl; replace k8:=bP.out 8 _ rfl;by_cases hV:Np.VHist h
  ·have HV:=jq hV;rw[Np.bM hV];clear hV;by_cases h0:0<=t
   ·have DV:decide (0<=t)=true:=uQ h0;by_cases hs:t<st
    ·have mK:decide (t<st)=true:=uQ hs;go_wp2_with fail;exact bodyPost_ret (v:=.bool true) (by simp[results,results26,go_sem]) rfl ⟨by rw[Np.bM ⟨HF.out,HV.out,h0,by rw[cI.out]; exact hs⟩],ar.out⟩
    ·have mK:decide (t<st)=false:=tQ hs;go_wp2_with fail;exact bodyPost_ret (v:=.bool false) (by simp[results,results26,go_sem]) rfl ⟨by rw[Np.aJ (λk:Np.tn h t=>by have:=k.2.2.2; rw[cI.out] at this; omega)],ar.out⟩
   ·have DV:decide (0<=t)=false:=tQ h0;go_wp2_with fail;exact bodyPost_ret (v:=.bool false) (by simp[results,results26,go_sem]) rfl ⟨by rw[Np.aJ (λk:Np.tn h t=>by have:=k.2.2.1; omega)],ar.out⟩
  ·rw[Np.aJ hV];go_wp2_with fail;exact bodyPost_ret (v:=.bool false) (by simp[results,results26,go_sem]) rfl ⟨by rw[Np.aJ (λk:Np.tn h t=>hV k.2.1)],ar.out⟩
 ·rw[Np.aJ hF];have gk:=jq (aw.out.trans (al.out.mono aw.out.size));go_wp2_with fail;exact bodyPost_ret (v:=.bool false) (by simp[results,results26,go_sem]) rfl ⟨by rw[Np.aJ (λk:Np.tn h t=>hF k.1)],gk.out⟩
theorem gD{α:Type}{R:World->Nat->List Value->α->Prop}{sz:Nat}{w:World}{B:Nat}{v:Value}{xs:List α}(h:SlR R sz w B v xs):∃ A n c,v = .slice A n c:=by
 obtain⟨A,c,rfl,_⟩:=ah h;exact⟨_,_,_,rfl⟩
theorem Np.QN(l:List Np.Copy)(z:List UInt8):(Np.pub l z).length<=(Np.dt l z).length:=by
 unfold Np.pub;rw[Np.Jm]
 have:=Np.zp ((Np.dt l z).map (·.2))
 rwa [List.length_map] at this
theorem Fy(x y:Np.Signed)(s1 s2:ByteArray)(h1:s1.data.toList=x.set.name)(h2:s2.data.toList=y.set.name)(v1 u1 v2 u2:Value)(w:World)(eU:SlR cr 3 w w.heap.size v1 x.set.data)(tK:SlR fj 6 w w.heap.size u1 x.sigs)(ls:SlR cr 3 w w.heap.size v2 y.set.data)(BH:SlR fj 6 w w.heap.size u2 y.sigs) :
 Calls prog 30 #[.agg #[.string s1,.int .i64 x.set.type,.int .i64 x.set.life,v1,u1],.agg #[.string s2,.int .i64 y.set.type,.int .i64 y.set.life,v2,u2]] w λe w'=>e = .returned (.bool (decide (x=y)))/\Below w.heap.size w w':=by
 refine (KH s1 s2 _ _ _ _ v1 v2 u1 u2 _ _ _ _ w eU ls tK BH).mono λe w' ⟨he,hb⟩=>⟨he.trans ?_,hb⟩;congr 2;rw[decide_eq_decide];obtain⟨⟨nx,tx,lx,dx⟩,gx⟩:=x;obtain⟨⟨ny,ty,ly,dy⟩,gy⟩:=y;dsimp only at h1 h2 |-;simp only[Np.Signed.mk.injEq,Np.DSet.mk.injEq];refine and_congr (and_congr ⟨λh=>by rw[<-h1,<-h2,h],λh=>iM (by rw[h1,h2,h])⟩ Iff.rfl) Iff.rfl
def Np.oD(l:List Np.Held)(x:Np.Signed)(t:Int)(j:Nat):Bool:=(l.take j).any λy=>decide (x=y.signed)&&Np.ux y.fresh t
theorem Np.XO{l:List Np.Held}{x:Np.Signed}{t:Int}{j:Nat}{y:Np.Held}(hj:l[j]?=some y):Np.oD l x t (j+1)=(Np.oD l x t j||(decide (x=y.signed)&&Np.ux y.fresh t)):=by
 obtain⟨hl,he⟩:=cQ.1 hj;unfold Np.oD;rw[fQ hl,he,List.any_append];simp
theorem Np.Ry{l:List Np.Span}{t:Int} : Np.ux l t=true↔Np.inS l t:=by
 unfold Np.ux Np.inS;rw[List.any_eq_true];simp
theorem Np.XN{l:List Np.Held}{x:Np.Signed}{t:Int} : Np.oD l x t l.length=true↔∃ y∈l,x=y.signed/\Np.inS y.fresh t:=by
 unfold Np.oD;rw[List.take_length,List.any_eq_true];simp only[Bool.and_eq_true,Qa,Np.Ry]
end
end Go.Proofs.YtbfbobfbgabjiaaGreatDoor
