/- Parts of the proof. No condition. -/
import Derived.Test.YtfnopgdcaanaiaaGreatDoorH33
import Derived.Test.YtfnopgdcaanaiaaGreatDoorH36
import Derived.Test.YtfnopgdcaanaiaaGreatDoorH37
import Derived.Test.YtfnopgdcaanaiaaGreatDoorH39
set_option linter.all false
set_option maxRecDepth 100000
set_option maxHeartbeats 8000000
namespace Go.Proofs.YtfnopgdcaanaiaaGreatDoor
open Go.Proofs.Tryz
section
open Go.RowKit
noncomputable def Np.oN(h:Np.Hist)(z:List UInt8):Int×List Np.Held:=if Np.yes (Np.sL h z) then (if Np.yes (Np.uu h z) then (0,Np.pub h.copies z) else (4,[])) else (1,[])
noncomputable def Np.tX(h:Np.Hist):Int×List (List UInt8):=if Np.yes (Np.VHist h) then (0,Np.apexes h.copies) else (1,[])
theorem Np.Xw{h:Np.Hist}{z:List UInt8}(k:¬ Np.sL h z):Np.oN h z=(1,[]):=by unfold Np.oN;rw[Np.aF k];rfl
theorem Np.Xx{h:Np.Hist}{z:List UInt8}(k:Np.sL h z)(k2:¬ Np.uu h z):Np.oN h z=(4,[]):=by unfold Np.oN;rw[Np.bB k,Np.aF k2];rfl
theorem Np.MT{h:Np.Hist}{z:List UInt8}(k:Np.sL h z)(k2:Np.uu h z):Np.oN h z=(0,Np.pub h.copies z):=by unfold Np.oN;rw[Np.bB k,Np.bB k2];rfl
theorem Np.OB{h:Np.Hist}(k:Np.VHist h):Np.tX h=(0,Np.apexes h.copies):=by unfold Np.tX;rw[Np.bB k];rfl
theorem Np.OA{h:Np.Hist}(k:¬ Np.VHist h):Np.tX h=(1,[]):=by unfold Np.tX;rw[Np.aF k];rfl
structure iC(w:World)(e:List Value)(h:Np.Hist):Prop where
 rh:ed w w.heap.size e h
 use:Np.Use h
 sums:Np.jo h
theorem iC.keep{w w':World}{e:List Value}{h:Np.Hist}(k:iC w e h)(hb:Below w.heap.size w w'):iC w' e h:=
 ⟨kg _ _ _ _ _ (kf _ _ _ _ _ k.rh hb) hb.size,k.use,k.sums⟩
structure gP(n:Nat)(w:World):Prop where
 rules:iH w n
 pow:fx w
 lt:1<n
theorem gP.keep{n:Nat}{w w':World}(k:gP n w)(hb:Below n w w'):gP n w':=⟨k.rules.keep hb,k.pow.keepAt hb k.lt,k.lt⟩
theorem gP.more{n m:Nat}{w:World}(k:gP n w)(h:n<=m):gP m w:=⟨k.rules.more h,k.pow,lQ k.lt h⟩
theorem gP.next{w w':World}(k:gP w.heap.size w)(hb:Below w.heap.size w w'):gP w'.heap.size w':=(k.keep hb).more hb.size
theorem Q8{h:Np.Hist}(v:Np.VHist h):∀ x∈Np.apexes h.copies,x.length<=140737488355328:=λx hx=>by
 obtain⟨c,hc,rfl⟩:=Np.vw.1 hx;have h1:=(Np.zH (v.each c hc).zone).1
 have:=(Np.vx h1).1
 omega
theorem Jn(l:List Np.Copy):(Np.apexes l).length<=l.length:=by
 unfold Np.apexes;rw[(Np.CB _).length_eq]
 have:=Np.rM (l.map (·.zone.apex))
 rwa [List.length_map] at this
theorem aK.around{base n:Nat}{w:World}{v:Value}{ps:List Np.Span}(h:aK base w v ps)(hn:n<=base)(hl:ps.length<=140737488355328):fR dU 2 0 n w v ps:=λM hM=>by
 have h1:aK base (bd w M) v ps:=ga h (λg hg=>kh (λe=>by have:=hM g e;have:=(World.ownsRow.lt h g hg).1;omega));have h2:=h1.slr hl;rwa [jH] at h2
theorem bU.around{base n:Nat}{w:World}{v:Value}{ps:List (List UInt8)}(h:bU base w v ps)(hn:n<=base)(hl:ps.length<=140737488355328)(hs:∀ x∈ps,x.length<=140737488355328):fR RTx 1 0 n w v ps:=λM hM=>by
 have h1:bU base (bd w M) v ps:=ga h (λg hg=>kh (λe=>by have:=hM g e;have:=(World.ownsRow.lt h g hg).1;omega));have h2:=h1.slr hl hs;rwa [jH] at h2
structure WAt(n:Nat)(w:World)(e:List Value)(x:Np.WorldP)(A1:Option Addr)(n1 c1:Nat)(A2:Option Addr)(n2 c2:Nat)(s:ByteArray)(ty lf:Int)(A3:Option Addr)(n3 c3:Nat)(A4:Option Addr)(n4 c4:Nat):Prop where
 val:e = [.slice A1 n1 c1,.slice A2 n2 c2,.string s,.int .i64 ty,.int .i64 lf,.slice A3 n3 c3,.slice A4 n4 c4]
 all:Eg w w.heap.size e x
 zones:fR sM 3 0 n w (.slice A2 n2 c2) x.zones
 len:x.zones.length=n2
theorem WAt.keep{n:Nat}{w w':World}{e:List Value}{x:Np.WorldP}{A1:Option Addr}{n1 c1:Nat}{A2:Option Addr}{n2 c2:Nat}{s:ByteArray}{ty lf:Int}{A3:Option Addr}{n3 c3:Nat}{A4:Option Addr}{n4 c4:Nat}(h:WAt n w e x A1 n1 c1 A2 n2 c2 s ty lf A3 n3 c3 A4 n4 c4)(hb:Below w.heap.size w w'):WAt n w' e x A1 n1 c1 A2 n2 c2 s ty lf A3 n3 c3 A4 n4 c4:=
 ⟨h.val,YG _ _ _ _ _ (YF _ _ _ _ _ h.all hb) hb.size,h.zones.keep Ct Gz hb,h.len⟩
theorem cPub(e:List Value)(h:Np.Hist)(z:ByteArray)(hz:z.size<=140737488355328)(w:World)(hV:gP w.heap.size w)(k:iC w e h) :
 Calls prog 61 #[.agg e.toArray,.string z] w λe w'=>∃ A n c,e = .returned (.tuple #[.slice A n c,.int .i64 (Np.oN h z.data.toList).1])/\(Np.oN h z.data.toList).2.length=n/\fR ii 8 0 w.heap.size w' (.slice A n c) (Np.oN h z.data.toList).2/\Below w.heap.size w w':=
 (XC e h k.use.fewH k.sums z hz (k.use.pairs _) w hV.rules hV.pow k.rh).mono λe w' ⟨h1,h2⟩=>by
   rcases h1 with ⟨n1,rfl⟩ | ⟨n1,⟨n2,rfl⟩ | ⟨n2,v',rfl,h3⟩⟩
   ·rw[Np.Xw n1];exact⟨_,_,_,rfl,rfl,fR.nil _ _ _ _,h2⟩
   ·rw[Np.Xx n1 n2];exact⟨_,_,_,rfl,rfl,fR.nil _ _ _ _,h2⟩
   ·rw[Np.MT n1 n2];obtain⟨A,c,rfl⟩:=h3.form;exact⟨_,_,_,rfl,rfl,h3,h2⟩
theorem cZon(e:List Value)(h:Np.Hist)(w:World)(hV:gP w.heap.size w)(k:iC w e h) :
 Calls prog 60 #[.agg e.toArray] w λe w'=>∃ A n c,e = .returned (.tuple #[.slice A n c,.int .i64 (Np.tX h).1])/\(Np.tX h).2.length=n/\fR RTx 1 0 w.heap.size w' (.slice A n c) (Np.tX h).2/\Below w.heap.size w w':=
 (aaJ e h k.use.fewH w hV.rules k.rh).mono λe w' ⟨h1,h2⟩=>by
   rcases h1 with ⟨n1,v',rfl,h3⟩ | ⟨n1,rfl⟩
   ·rw[Np.OB n1];have h4:=h3.around (bQ _) (by have h4:=Jn h.copies;have h5:=k.use.copies;omega) (Q8 n1);obtain⟨A,c,rfl⟩:=h4.form;exact⟨_,_,_,rfl,rfl,h4,h2⟩
   ·rw[Np.OA n1];exact⟨_,_,_,rfl,rfl,fR.nil _ _ _ _,h2⟩
theorem Rk(e:List Value)(h:Np.Hist)(w:World)(hV:gP w.heap.size w)(k:iC w e h) :
 Calls prog 56 #[.agg e.toArray] w λe w'=>e = .returned (.bool (Np.yes (Np.VHist h)))/\Below w.heap.size w w':=
 KN e h k.use.fewH w hV.rules k.rh
theorem vI{w:World}{B:Nat}{e:List Value}{h:Np.Hist}(k:ed w B e h):∃ A1 n1 c1 A2 n2 c2 s ty lf A3 n3 c3 A4 n4 c4 dr st,e = [.slice A1 n1 c1,.slice A2 n2 c2,.string s,.int .i64 ty,.int .i64 lf,.slice A3 n3 c3,.slice A4 n4 c4,.int .i64 dr,.int .i64 st]/\h.hosts.length=n1/\h.copies.length=n2/\h.stop=st/\SlR iG 3 w B (.slice A1 n1 c1) h.hosts/\SlR fU 5 w B (.slice A2 n2 c2) h.copies:=by
 obtain⟨hv,cv,s,dv,cN,rfl,_,_,h3,h4,h5,h6⟩:=k;obtain⟨A1,c1,rfl,_⟩:=al h3;obtain⟨A2,c2,rfl,_⟩:=al h4;obtain⟨A3,c3,rfl,_⟩:=al h5;obtain⟨A4,c4,rfl,_⟩:=al h6;exact⟨A1,_,c1,A2,_,c2,s,_,_,A3,_,c3,A4,_,c4,_,_,rfl,rfl,rfl,rfl,h3,h4⟩
theorem Np.LO{life:Int}{sg:List Np.Sig}(h:Np.lG life sg):Np.Use (Np.hxH life sg):=⟨by simp[Np.hxH,Np.hxC],by simp[Np.hxH],by simp[Np.hxH],by simp[Np.hxH],λc hc=>by
 simp only[Np.hxH,Np.hxC,List.mem_cons,Qh,or_false] at hc;subst hc;refine⟨by simp[Np.hxZ],λx hx=>?_⟩;simp only[Np.hxZ,List.mem_cons,Qh,or_false] at hx;rcases hx with rfl | rfl | rfl
 ·simp[Np.hxN]
 ·simp[Np.hxS]
 ·rcases h with ⟨rfl,rfl⟩ | ⟨rfl,rfl⟩ | ⟨rfl,rfl⟩ <;> simp[Np.hxW]⟩
theorem Np.LN{life:Int}{sg:List Np.Sig}(h:Np.lG life sg):Np.jo (Np.hxH life sg):=λc hc x hx g hg=>by
 simp only[Np.hxH,Np.hxC,List.mem_cons,Qh,or_false] at hc;subst hc;simp only[Np.hxZ,List.mem_cons,Qh,or_false] at hx;rcases hx with rfl | rfl | rfl
 ·simp[Np.hxN] at hg
 ·simp[Np.hxS] at hg
 ·rcases h with ⟨rfl,rfl⟩ | ⟨rfl,rfl⟩ | ⟨rfl,rfl⟩
  ·simp[Np.hxW] at hg
  ·simp[Np.hxW] at hg;subst hg;decide
  ·simp[Np.hxW] at hg
theorem am{w:World}{b o:Nat}{l:List Value}(h:ag w b o l)(hb:b<w.heap.size)(ob:Obj):ag (w.alloc ob) b o l:=h.move (Below.heap_alloc _ _ _ hb)
theorem Ey(life:Int)(hk:Np.lG life [])(w:World):Calls prog 54 #[.int .i64 life,.int .i64 0] w λe w'=>∃ e',e = .returned (.agg e'.toArray)/\iC w' e' (Np.hxH life [])/\Below w.heap.size w w':=by
 obtain⟨X,hX⟩:∃ X,w.heap.size=X:=⟨_,rfl⟩;rw[hX];have HK:=jq hk;clear hk;go_enter func54,ntmps54;go_wp2_with fail;obtain⟨v0,rD⟩:∃ v,w=v:=⟨_,rfl⟩;obtain⟨v1,pW⟩:∃ v,v0.alloc (.cells #[.slice (some ⟨X+1+1+1+1+1+1+1+1+1,0,none⟩) 1 1,.slice (some ⟨X+1+1+1+1+1+1+1+1+1+1,0,none⟩) 1 1,.string ⟨#[46]⟩,.int .i64 6,.int .i64 0,.slice (some ⟨X+1+1+1+1+1+1+1,0,none⟩) 1 1,.slice (some ⟨X+1+1+1+1+1+1+1+1+1+1+1,0,none⟩) 1 1,.int .i64 2,.int .i64 50] 29)=v:=⟨_,rfl⟩;obtain⟨v2,fl⟩:∃ v,v1.alloc (.cells #[.string ⟨#[]⟩,.int .i64 7,.int .i64 0] 128)=v:=⟨_,rfl⟩;obtain⟨v3,lZ⟩:∃ v,v2.alloc (.cells #[.string ⟨#[119,46,120]⟩,.int .i64 1,.int .i64 life,.slice (some ⟨X+1,0,none⟩) 1 1,.slice none 0 0] 42)=v:=⟨_,rfl⟩;obtain⟨v4,kI⟩:∃ v,v3.alloc (.cells #[.string ⟨#[97]⟩,.int .i64 0,.int .i64 0] 128)=v:=⟨_,rfl⟩;obtain⟨v5,jF⟩:∃ v,v4.alloc (.cells #[.string ⟨#[]⟩,.int .i64 1,.int .i64 0] 128)=v:=⟨_,rfl⟩;obtain⟨v6,iq⟩:∃ v,v5.alloc (.cells #[.string ⟨#[120]⟩,.int .i64 2,.int .i64 0,.slice (some ⟨X+1+1+1,0,none⟩) 1 1,.slice none 0 0,.string ⟨#[120]⟩,.int .i64 4,.int .i64 0,.slice (some ⟨X+1+1+1+1,0,none⟩) 1 1,.slice none 0 0,.string ⟨#[119,46,120]⟩,.int .i64 1,.int .i64 life,.slice (some ⟨X+1,0,none⟩) 1 1,.slice none 0 0] 42)=v:=⟨_,rfl⟩;obtain⟨v7,gK⟩:∃ v,v6.alloc (.cells #[.string ⟨#[120]⟩,.slice (some ⟨X+1+1+1+1+1,0,none⟩) 3 3] 44)=v:=⟨_,rfl⟩;obtain⟨v8,f8⟩:∃ v,v7.alloc (.cells #[.string ⟨#[]⟩,.int .i64 1,.int .i64 1] 128)=v:=⟨_,rfl⟩;obtain⟨v9,fF⟩:∃ v,v8.alloc (.cells #[.string ⟨#[46]⟩,.int .i64 6,.int .i64 0,.slice (some ⟨X+1+1+1+1+1+1+1,0,none⟩) 1 1] 26)=v:=⟨_,rfl⟩;obtain⟨v10,eV⟩:∃ v,v9.alloc (.cells #[.string ⟨#[97]⟩,.int .i64 1,.int .i64 0] 101)=v:=⟨_,rfl⟩;obtain⟨v11,ej⟩:∃ v,v10.alloc (.cells #[.int .i64 0,.int .i64 0,.int .i64 20,.string ⟨#[120]⟩,.slice (some ⟨X+1+1+1+1+1,0,none⟩) 3 3] 46)=v:=⟨_,rfl⟩;obtain⟨v12,dK⟩:∃ v,v11.alloc (.cells #[.int .i64 1] 3)=v:=⟨_,rfl⟩;rw[rD,pW,fl,lZ,kI,jF,iq,gK,f8,fF,eV,ej,dK];have z0:v0.heap.size=X:=by rw[<-rD];exact hX
 have z1:v1.heap.size=X+1:=by rw[<-pW,World.size_alloc,z0]
 have z2:v2.heap.size=X+1+1:=by rw[<-fl,World.size_alloc,z1]
 have z3:v3.heap.size=X+1+1+1:=by rw[<-lZ,World.size_alloc,z2]
 have z4:v4.heap.size=X+1+1+1+1:=by rw[<-kI,World.size_alloc,z3]
 have z5:v5.heap.size=X+1+1+1+1+1:=by rw[<-jF,World.size_alloc,z4]
 have z6:v6.heap.size=X+1+1+1+1+1+1:=by rw[<-iq,World.size_alloc,z5]
 have z7:v7.heap.size=X+1+1+1+1+1+1+1:=by rw[<-gK,World.size_alloc,z6]
 have z8:v8.heap.size=X+1+1+1+1+1+1+1+1:=by rw[<-f8,World.size_alloc,z7]
 have z9:v9.heap.size=X+1+1+1+1+1+1+1+1+1:=by rw[<-fF,World.size_alloc,z8]
 have z10:v10.heap.size=X+1+1+1+1+1+1+1+1+1+1:=by rw[<-eV,World.size_alloc,z9]
 have z11:v11.heap.size=X+1+1+1+1+1+1+1+1+1+1+1:=by rw[<-ej,World.size_alloc,z10]
 have z12:v12.heap.size=X+1+1+1+1+1+1+1+1+1+1+1+1:=by rw[<-dK,World.size_alloc,z11]
 have c0:ag v1 (X) 0 [.slice (some ⟨X+1+1+1+1+1+1+1+1+1,0,none⟩) 1 1,.slice (some ⟨X+1+1+1+1+1+1+1+1+1+1,0,none⟩) 1 1,.string ⟨#[46]⟩,.int .i64 6,.int .i64 0,.slice (some ⟨X+1+1+1+1+1+1+1,0,none⟩) 1 1,.slice (some ⟨X+1+1+1+1+1+1+1+1+1+1+1,0,none⟩) 1 1,.int .i64 2,.int .i64 50]:=dV _ _ z0 pW.symm;have c1:ag v2 (X+1) 0 [.string ⟨#[]⟩,.int .i64 7,.int .i64 0]:=dV _ _ z1 fl.symm;replace c0:ag v2 (X) 0 [.slice (some ⟨X+1+1+1+1+1+1+1+1+1,0,none⟩) 1 1,.slice (some ⟨X+1+1+1+1+1+1+1+1+1+1,0,none⟩) 1 1,.string ⟨#[46]⟩,.int .i64 6,.int .i64 0,.slice (some ⟨X+1+1+1+1+1+1+1,0,none⟩) 1 1,.slice (some ⟨X+1+1+1+1+1+1+1+1+1+1+1,0,none⟩) 1 1,.int .i64 2,.int .i64 50]:=by rw[<-fl];exact am c0 (by omega) _
 have c2:ag v3 (X+1+1) 0 [.string ⟨#[119,46,120]⟩,.int .i64 1,.int .i64 life,.slice (some ⟨X+1,0,none⟩) 1 1,.slice none 0 0]:=dV _ _ z2 lZ.symm;replace c0:ag v3 (X) 0 [.slice (some ⟨X+1+1+1+1+1+1+1+1+1,0,none⟩) 1 1,.slice (some ⟨X+1+1+1+1+1+1+1+1+1+1,0,none⟩) 1 1,.string ⟨#[46]⟩,.int .i64 6,.int .i64 0,.slice (some ⟨X+1+1+1+1+1+1+1,0,none⟩) 1 1,.slice (some ⟨X+1+1+1+1+1+1+1+1+1+1+1,0,none⟩) 1 1,.int .i64 2,.int .i64 50]:=by rw[<-lZ];exact am c0 (by omega) _
 replace c1:ag v3 (X+1) 0 [.string ⟨#[]⟩,.int .i64 7,.int .i64 0]:=by rw[<-lZ];exact am c1 (by omega) _
 have c3:ag v4 (X+1+1+1) 0 [.string ⟨#[97]⟩,.int .i64 0,.int .i64 0]:=dV _ _ z3 kI.symm;replace c0:ag v4 (X) 0 [.slice (some ⟨X+1+1+1+1+1+1+1+1+1,0,none⟩) 1 1,.slice (some ⟨X+1+1+1+1+1+1+1+1+1+1,0,none⟩) 1 1,.string ⟨#[46]⟩,.int .i64 6,.int .i64 0,.slice (some ⟨X+1+1+1+1+1+1+1,0,none⟩) 1 1,.slice (some ⟨X+1+1+1+1+1+1+1+1+1+1+1,0,none⟩) 1 1,.int .i64 2,.int .i64 50]:=by rw[<-kI];exact am c0 (by omega) _
 replace c1:ag v4 (X+1) 0 [.string ⟨#[]⟩,.int .i64 7,.int .i64 0]:=by rw[<-kI];exact am c1 (by omega) _
 replace c2:ag v4 (X+1+1) 0 [.string ⟨#[119,46,120]⟩,.int .i64 1,.int .i64 life,.slice (some ⟨X+1,0,none⟩) 1 1,.slice none 0 0]:=by rw[<-kI];exact am c2 (by omega) _
 have c4:ag v5 (X+1+1+1+1) 0 [.string ⟨#[]⟩,.int .i64 1,.int .i64 0]:=dV _ _ z4 jF.symm;replace c0:ag v5 (X) 0 [.slice (some ⟨X+1+1+1+1+1+1+1+1+1,0,none⟩) 1 1,.slice (some ⟨X+1+1+1+1+1+1+1+1+1+1,0,none⟩) 1 1,.string ⟨#[46]⟩,.int .i64 6,.int .i64 0,.slice (some ⟨X+1+1+1+1+1+1+1,0,none⟩) 1 1,.slice (some ⟨X+1+1+1+1+1+1+1+1+1+1+1,0,none⟩) 1 1,.int .i64 2,.int .i64 50]:=by rw[<-jF];exact am c0 (by omega) _
 replace c1:ag v5 (X+1) 0 [.string ⟨#[]⟩,.int .i64 7,.int .i64 0]:=by rw[<-jF];exact am c1 (by omega) _
 replace c2:ag v5 (X+1+1) 0 [.string ⟨#[119,46,120]⟩,.int .i64 1,.int .i64 life,.slice (some ⟨X+1,0,none⟩) 1 1,.slice none 0 0]:=by rw[<-jF];exact am c2 (by omega) _
 replace c3:ag v5 (X+1+1+1) 0 [.string ⟨#[97]⟩,.int .i64 0,.int .i64 0]:=by rw[<-jF];exact am c3 (by omega) _
 have c5:ag v6 (X+1+1+1+1+1) 0 [.string ⟨#[120]⟩,.int .i64 2,.int .i64 0,.slice (some ⟨X+1+1+1,0,none⟩) 1 1,.slice none 0 0,.string ⟨#[120]⟩,.int .i64 4,.int .i64 0,.slice (some ⟨X+1+1+1+1,0,none⟩) 1 1,.slice none 0 0,.string ⟨#[119,46,120]⟩,.int .i64 1,.int .i64 life,.slice (some ⟨X+1,0,none⟩) 1 1,.slice none 0 0]:=dV _ _ z5 iq.symm;replace c0:ag v6 (X) 0 [.slice (some ⟨X+1+1+1+1+1+1+1+1+1,0,none⟩) 1 1,.slice (some ⟨X+1+1+1+1+1+1+1+1+1+1,0,none⟩) 1 1,.string ⟨#[46]⟩,.int .i64 6,.int .i64 0,.slice (some ⟨X+1+1+1+1+1+1+1,0,none⟩) 1 1,.slice (some ⟨X+1+1+1+1+1+1+1+1+1+1+1,0,none⟩) 1 1,.int .i64 2,.int .i64 50]:=by rw[<-iq];exact am c0 (by omega) _
 replace c1:ag v6 (X+1) 0 [.string ⟨#[]⟩,.int .i64 7,.int .i64 0]:=by rw[<-iq];exact am c1 (by omega) _
 replace c2:ag v6 (X+1+1) 0 [.string ⟨#[119,46,120]⟩,.int .i64 1,.int .i64 life,.slice (some ⟨X+1,0,none⟩) 1 1,.slice none 0 0]:=by rw[<-iq];exact am c2 (by omega) _
 replace c3:ag v6 (X+1+1+1) 0 [.string ⟨#[97]⟩,.int .i64 0,.int .i64 0]:=by rw[<-iq];exact am c3 (by omega) _
 replace c4:ag v6 (X+1+1+1+1) 0 [.string ⟨#[]⟩,.int .i64 1,.int .i64 0]:=by rw[<-iq];exact am c4 (by omega) _
 have c6:ag v7 (X+1+1+1+1+1+1) 0 [.string ⟨#[120]⟩,.slice (some ⟨X+1+1+1+1+1,0,none⟩) 3 3]:=dV _ _ z6 gK.symm;replace c0:ag v7 (X) 0 [.slice (some ⟨X+1+1+1+1+1+1+1+1+1,0,none⟩) 1 1,.slice (some ⟨X+1+1+1+1+1+1+1+1+1+1,0,none⟩) 1 1,.string ⟨#[46]⟩,.int .i64 6,.int .i64 0,.slice (some ⟨X+1+1+1+1+1+1+1,0,none⟩) 1 1,.slice (some ⟨X+1+1+1+1+1+1+1+1+1+1+1,0,none⟩) 1 1,.int .i64 2,.int .i64 50]:=by rw[<-gK];exact am c0 (by omega) _
 replace c1:ag v7 (X+1) 0 [.string ⟨#[]⟩,.int .i64 7,.int .i64 0]:=by rw[<-gK];exact am c1 (by omega) _
 replace c2:ag v7 (X+1+1) 0 [.string ⟨#[119,46,120]⟩,.int .i64 1,.int .i64 life,.slice (some ⟨X+1,0,none⟩) 1 1,.slice none 0 0]:=by rw[<-gK];exact am c2 (by omega) _
 replace c3:ag v7 (X+1+1+1) 0 [.string ⟨#[97]⟩,.int .i64 0,.int .i64 0]:=by rw[<-gK];exact am c3 (by omega) _
 replace c4:ag v7 (X+1+1+1+1) 0 [.string ⟨#[]⟩,.int .i64 1,.int .i64 0]:=by rw[<-gK];exact am c4 (by omega) _
 replace c5:ag v7 (X+1+1+1+1+1) 0 [.string ⟨#[120]⟩,.int .i64 2,.int .i64 0,.slice (some ⟨X+1+1+1,0,none⟩) 1 1,.slice none 0 0,.string ⟨#[120]⟩,.int .i64 4,.int .i64 0,.slice (some ⟨X+1+1+1+1,0,none⟩) 1 1,.slice none 0 0,.string ⟨#[119,46,120]⟩,.int .i64 1,.int .i64 life,.slice (some ⟨X+1,0,none⟩) 1 1,.slice none 0 0]:=by rw[<-gK];exact am c5 (by omega) _
 have c7:ag v8 (X+1+1+1+1+1+1+1) 0 [.string ⟨#[]⟩,.int .i64 1,.int .i64 1]:=dV _ _ z7 f8.symm;replace c0:ag v8 (X) 0 [.slice (some ⟨X+1+1+1+1+1+1+1+1+1,0,none⟩) 1 1,.slice (some ⟨X+1+1+1+1+1+1+1+1+1+1,0,none⟩) 1 1,.string ⟨#[46]⟩,.int .i64 6,.int .i64 0,.slice (some ⟨X+1+1+1+1+1+1+1,0,none⟩) 1 1,.slice (some ⟨X+1+1+1+1+1+1+1+1+1+1+1,0,none⟩) 1 1,.int .i64 2,.int .i64 50]:=by rw[<-f8];exact am c0 (by omega) _
 replace c1:ag v8 (X+1) 0 [.string ⟨#[]⟩,.int .i64 7,.int .i64 0]:=by rw[<-f8];exact am c1 (by omega) _
 replace c2:ag v8 (X+1+1) 0 [.string ⟨#[119,46,120]⟩,.int .i64 1,.int .i64 life,.slice (some ⟨X+1,0,none⟩) 1 1,.slice none 0 0]:=by rw[<-f8];exact am c2 (by omega) _
 replace c3:ag v8 (X+1+1+1) 0 [.string ⟨#[97]⟩,.int .i64 0,.int .i64 0]:=by rw[<-f8];exact am c3 (by omega) _
 replace c4:ag v8 (X+1+1+1+1) 0 [.string ⟨#[]⟩,.int .i64 1,.int .i64 0]:=by rw[<-f8];exact am c4 (by omega) _
 replace c5:ag v8 (X+1+1+1+1+1) 0 [.string ⟨#[120]⟩,.int .i64 2,.int .i64 0,.slice (some ⟨X+1+1+1,0,none⟩) 1 1,.slice none 0 0,.string ⟨#[120]⟩,.int .i64 4,.int .i64 0,.slice (some ⟨X+1+1+1+1,0,none⟩) 1 1,.slice none 0 0,.string ⟨#[119,46,120]⟩,.int .i64 1,.int .i64 life,.slice (some ⟨X+1,0,none⟩) 1 1,.slice none 0 0]:=by rw[<-f8];exact am c5 (by omega) _
 replace c6:ag v8 (X+1+1+1+1+1+1) 0 [.string ⟨#[120]⟩,.slice (some ⟨X+1+1+1+1+1,0,none⟩) 3 3]:=by rw[<-f8];exact am c6 (by omega) _
 have c8:ag v9 (X+1+1+1+1+1+1+1+1) 0 [.string ⟨#[46]⟩,.int .i64 6,.int .i64 0,.slice (some ⟨X+1+1+1+1+1+1+1,0,none⟩) 1 1]:=dV _ _ z8 fF.symm;replace c0:ag v9 (X) 0 [.slice (some ⟨X+1+1+1+1+1+1+1+1+1,0,none⟩) 1 1,.slice (some ⟨X+1+1+1+1+1+1+1+1+1+1,0,none⟩) 1 1,.string ⟨#[46]⟩,.int .i64 6,.int .i64 0,.slice (some ⟨X+1+1+1+1+1+1+1,0,none⟩) 1 1,.slice (some ⟨X+1+1+1+1+1+1+1+1+1+1+1,0,none⟩) 1 1,.int .i64 2,.int .i64 50]:=by rw[<-fF];exact am c0 (by omega) _
 replace c1:ag v9 (X+1) 0 [.string ⟨#[]⟩,.int .i64 7,.int .i64 0]:=by rw[<-fF];exact am c1 (by omega) _
 replace c2:ag v9 (X+1+1) 0 [.string ⟨#[119,46,120]⟩,.int .i64 1,.int .i64 life,.slice (some ⟨X+1,0,none⟩) 1 1,.slice none 0 0]:=by rw[<-fF];exact am c2 (by omega) _
 replace c3:ag v9 (X+1+1+1) 0 [.string ⟨#[97]⟩,.int .i64 0,.int .i64 0]:=by rw[<-fF];exact am c3 (by omega) _
 replace c4:ag v9 (X+1+1+1+1) 0 [.string ⟨#[]⟩,.int .i64 1,.int .i64 0]:=by rw[<-fF];exact am c4 (by omega) _
 replace c5:ag v9 (X+1+1+1+1+1) 0 [.string ⟨#[120]⟩,.int .i64 2,.int .i64 0,.slice (some ⟨X+1+1+1,0,none⟩) 1 1,.slice none 0 0,.string ⟨#[120]⟩,.int .i64 4,.int .i64 0,.slice (some ⟨X+1+1+1+1,0,none⟩) 1 1,.slice none 0 0,.string ⟨#[119,46,120]⟩,.int .i64 1,.int .i64 life,.slice (some ⟨X+1,0,none⟩) 1 1,.slice none 0 0]:=by rw[<-fF];exact am c5 (by omega) _
 replace c6:ag v9 (X+1+1+1+1+1+1) 0 [.string ⟨#[120]⟩,.slice (some ⟨X+1+1+1+1+1,0,none⟩) 3 3]:=by rw[<-fF];exact am c6 (by omega) _
 replace c7:ag v9 (X+1+1+1+1+1+1+1) 0 [.string ⟨#[]⟩,.int .i64 1,.int .i64 1]:=by rw[<-fF];exact am c7 (by omega) _
 have c9:ag v10 (X+1+1+1+1+1+1+1+1+1) 0 [.string ⟨#[97]⟩,.int .i64 1,.int .i64 0]:=dV _ _ z9 eV.symm;replace c0:ag v10 (X) 0 [.slice (some ⟨X+1+1+1+1+1+1+1+1+1,0,none⟩) 1 1,.slice (some ⟨X+1+1+1+1+1+1+1+1+1+1,0,none⟩) 1 1,.string ⟨#[46]⟩,.int .i64 6,.int .i64 0,.slice (some ⟨X+1+1+1+1+1+1+1,0,none⟩) 1 1,.slice (some ⟨X+1+1+1+1+1+1+1+1+1+1+1,0,none⟩) 1 1,.int .i64 2,.int .i64 50]:=by rw[<-eV];exact am c0 (by omega) _
 replace c1:ag v10 (X+1) 0 [.string ⟨#[]⟩,.int .i64 7,.int .i64 0]:=by rw[<-eV];exact am c1 (by omega) _
 replace c2:ag v10 (X+1+1) 0 [.string ⟨#[119,46,120]⟩,.int .i64 1,.int .i64 life,.slice (some ⟨X+1,0,none⟩) 1 1,.slice none 0 0]:=by rw[<-eV];exact am c2 (by omega) _
 replace c3:ag v10 (X+1+1+1) 0 [.string ⟨#[97]⟩,.int .i64 0,.int .i64 0]:=by rw[<-eV];exact am c3 (by omega) _
 replace c4:ag v10 (X+1+1+1+1) 0 [.string ⟨#[]⟩,.int .i64 1,.int .i64 0]:=by rw[<-eV];exact am c4 (by omega) _
 replace c5:ag v10 (X+1+1+1+1+1) 0 [.string ⟨#[120]⟩,.int .i64 2,.int .i64 0,.slice (some ⟨X+1+1+1,0,none⟩) 1 1,.slice none 0 0,.string ⟨#[120]⟩,.int .i64 4,.int .i64 0,.slice (some ⟨X+1+1+1+1,0,none⟩) 1 1,.slice none 0 0,.string ⟨#[119,46,120]⟩,.int .i64 1,.int .i64 life,.slice (some ⟨X+1,0,none⟩) 1 1,.slice none 0 0]:=by rw[<-eV];exact am c5 (by omega) _
 replace c6:ag v10 (X+1+1+1+1+1+1) 0 [.string ⟨#[120]⟩,.slice (some ⟨X+1+1+1+1+1,0,none⟩) 3 3]:=by rw[<-eV];exact am c6 (by omega) _
 replace c7:ag v10 (X+1+1+1+1+1+1+1) 0 [.string ⟨#[]⟩,.int .i64 1,.int .i64 1]:=by rw[<-eV];exact am c7 (by omega) _
 replace c8:ag v10 (X+1+1+1+1+1+1+1+1) 0 [.string ⟨#[46]⟩,.int .i64 6,.int .i64 0,.slice (some ⟨X+1+1+1+1+1+1+1,0,none⟩) 1 1]:=by rw[<-eV];exact am c8 (by omega) _
 have c10:ag v11 (X+1+1+1+1+1+1+1+1+1+1) 0 [.int .i64 0,.int .i64 0,.int .i64 20,.string ⟨#[120]⟩,.slice (some ⟨X+1+1+1+1+1,0,none⟩) 3 3]:=dV _ _ z10 ej.symm;replace c0:ag v11 (X) 0 [.slice (some ⟨X+1+1+1+1+1+1+1+1+1,0,none⟩) 1 1,.slice (some ⟨X+1+1+1+1+1+1+1+1+1+1,0,none⟩) 1 1,.string ⟨#[46]⟩,.int .i64 6,.int .i64 0,.slice (some ⟨X+1+1+1+1+1+1+1,0,none⟩) 1 1,.slice (some ⟨X+1+1+1+1+1+1+1+1+1+1+1,0,none⟩) 1 1,.int .i64 2,.int .i64 50]:=by rw[<-ej];exact am c0 (by omega) _
 replace c1:ag v11 (X+1) 0 [.string ⟨#[]⟩,.int .i64 7,.int .i64 0]:=by rw[<-ej];exact am c1 (by omega) _
 replace c2:ag v11 (X+1+1) 0 [.string ⟨#[119,46,120]⟩,.int .i64 1,.int .i64 life,.slice (some ⟨X+1,0,none⟩) 1 1,.slice none 0 0]:=by rw[<-ej];exact am c2 (by omega) _
 replace c3:ag v11 (X+1+1+1) 0 [.string ⟨#[97]⟩,.int .i64 0,.int .i64 0]:=by rw[<-ej];exact am c3 (by omega) _
 replace c4:ag v11 (X+1+1+1+1) 0 [.string ⟨#[]⟩,.int .i64 1,.int .i64 0]:=by rw[<-ej];exact am c4 (by omega) _
 replace c5:ag v11 (X+1+1+1+1+1) 0 [.string ⟨#[120]⟩,.int .i64 2,.int .i64 0,.slice (some ⟨X+1+1+1,0,none⟩) 1 1,.slice none 0 0,.string ⟨#[120]⟩,.int .i64 4,.int .i64 0,.slice (some ⟨X+1+1+1+1,0,none⟩) 1 1,.slice none 0 0,.string ⟨#[119,46,120]⟩,.int .i64 1,.int .i64 life,.slice (some ⟨X+1,0,none⟩) 1 1,.slice none 0 0]:=by rw[<-ej];exact am c5 (by omega) _
 replace c6:ag v11 (X+1+1+1+1+1+1) 0 [.string ⟨#[120]⟩,.slice (some ⟨X+1+1+1+1+1,0,none⟩) 3 3]:=by rw[<-ej];exact am c6 (by omega) _
 replace c7:ag v11 (X+1+1+1+1+1+1+1) 0 [.string ⟨#[]⟩,.int .i64 1,.int .i64 1]:=by rw[<-ej];exact am c7 (by omega) _
 replace c8:ag v11 (X+1+1+1+1+1+1+1+1) 0 [.string ⟨#[46]⟩,.int .i64 6,.int .i64 0,.slice (some ⟨X+1+1+1+1+1+1+1,0,none⟩) 1 1]:=by rw[<-ej];exact am c8 (by omega) _
 replace c9:ag v11 (X+1+1+1+1+1+1+1+1+1) 0 [.string ⟨#[97]⟩,.int .i64 1,.int .i64 0]:=by rw[<-ej];exact am c9 (by omega) _
 have c11:ag v12 (X+1+1+1+1+1+1+1+1+1+1+1) 0 [.int .i64 1]:=dV _ _ z11 dK.symm;replace c0:ag v12 (X) 0 [.slice (some ⟨X+1+1+1+1+1+1+1+1+1,0,none⟩) 1 1,.slice (some ⟨X+1+1+1+1+1+1+1+1+1+1,0,none⟩) 1 1,.string ⟨#[46]⟩,.int .i64 6,.int .i64 0,.slice (some ⟨X+1+1+1+1+1+1+1,0,none⟩) 1 1,.slice (some ⟨X+1+1+1+1+1+1+1+1+1+1+1,0,none⟩) 1 1,.int .i64 2,.int .i64 50]:=by rw[<-dK];exact am c0 (by omega) _
 replace c1:ag v12 (X+1) 0 [.string ⟨#[]⟩,.int .i64 7,.int .i64 0]:=by rw[<-dK];exact am c1 (by omega) _
 replace c2:ag v12 (X+1+1) 0 [.string ⟨#[119,46,120]⟩,.int .i64 1,.int .i64 life,.slice (some ⟨X+1,0,none⟩) 1 1,.slice none 0 0]:=by rw[<-dK];exact am c2 (by omega) _
 replace c3:ag v12 (X+1+1+1) 0 [.string ⟨#[97]⟩,.int .i64 0,.int .i64 0]:=by rw[<-dK];exact am c3 (by omega) _
 replace c4:ag v12 (X+1+1+1+1) 0 [.string ⟨#[]⟩,.int .i64 1,.int .i64 0]:=by rw[<-dK];exact am c4 (by omega) _
 replace c5:ag v12 (X+1+1+1+1+1) 0 [.string ⟨#[120]⟩,.int .i64 2,.int .i64 0,.slice (some ⟨X+1+1+1,0,none⟩) 1 1,.slice none 0 0,.string ⟨#[120]⟩,.int .i64 4,.int .i64 0,.slice (some ⟨X+1+1+1+1,0,none⟩) 1 1,.slice none 0 0,.string ⟨#[119,46,120]⟩,.int .i64 1,.int .i64 life,.slice (some ⟨X+1,0,none⟩) 1 1,.slice none 0 0]:=by rw[<-dK];exact am c5 (by omega) _
 replace c6:ag v12 (X+1+1+1+1+1+1) 0 [.string ⟨#[120]⟩,.slice (some ⟨X+1+1+1+1+1,0,none⟩) 3 3]:=by rw[<-dK];exact am c6 (by omega) _
 replace c7:ag v12 (X+1+1+1+1+1+1+1) 0 [.string ⟨#[]⟩,.int .i64 1,.int .i64 1]:=by rw[<-dK];exact am c7 (by omega) _
 replace c8:ag v12 (X+1+1+1+1+1+1+1+1) 0 [.string ⟨#[46]⟩,.int .i64 6,.int .i64 0,.slice (some ⟨X+1+1+1+1+1+1+1,0,none⟩) 1 1]:=by rw[<-dK];exact am c8 (by omega) _
 replace c9:ag v12 (X+1+1+1+1+1+1+1+1+1) 0 [.string ⟨#[97]⟩,.int .i64 1,.int .i64 0]:=by rw[<-dK];exact am c9 (by omega) _
 replace c10:ag v12 (X+1+1+1+1+1+1+1+1+1+1) 0 [.int .i64 0,.int .i64 0,.int .i64 20,.string ⟨#[120]⟩,.slice (some ⟨X+1+1+1+1+1,0,none⟩) 3 3]:=by rw[<-dK];exact am c10 (by omega) _
 have hb:Below X v0 v12:=by
  rw[<-dK,<-ej,<-eV,<-fF,<-f8,<-gK,<-iq,<-jF,<-kI,<-lZ,<-fl,<-pW];exact (((((((((((((vQ _ _).alloc (Nat.le_of_eq z0.symm) _).alloc (by simp <;> omega) _).alloc (by simp <;> omega) _).alloc (by simp <;> omega) _).alloc (by simp <;> omega) _).alloc (by simp <;> omega) _).alloc (by simp <;> omega) _).alloc (by simp <;> omega) _).alloc (by simp <;> omega) _).alloc (by simp <;> omega) _).alloc (by simp <;> omega) _).alloc (by simp <;> omega) _)
 have hR:iC v12 [.slice (some ⟨X+1+1+1+1+1+1+1+1+1,0,none⟩) 1 1,.slice (some ⟨X+1+1+1+1+1+1+1+1+1+1,0,none⟩) 1 1,.string ⟨#[46]⟩,.int .i64 6,.int .i64 0,.slice (some ⟨X+1+1+1+1+1+1+1,0,none⟩) 1 1,.slice (some ⟨X+1+1+1+1+1+1+1+1+1+1+1,0,none⟩) 1 1,.int .i64 2,.int .i64 50] (Np.hxH life []):=by
  refine⟨⟨_,_,⟨#[46]⟩,_,_,rfl,rfl,by decide,?_,?_,?_,?_⟩,Np.LO HK.out,Np.LN HK.out⟩
  ·exact gL (R:=iG) [.string ⟨#[97]⟩,.int .i64 1,.int .i64 0] (by omega) c9 ⟨⟨#[97]⟩,rfl,by decide,rfl⟩
  ·refine gL (R:=fU) [.int .i64 0,.int .i64 0,.int .i64 20,.string ⟨#[120]⟩,.slice (some ⟨X+1+1+1+1+1,0,none⟩) 3 3] (by omega) c10 ⟨⟨#[120]⟩,_,rfl,by decide,?_,rfl⟩;refine Gi (R:=bh) [.string ⟨#[120]⟩,.int .i64 2,.int .i64 0,.slice (some ⟨X+1+1+1,0,none⟩) 1 1,.slice none 0 0] [.string ⟨#[120]⟩,.int .i64 4,.int .i64 0,.slice (some ⟨X+1+1+1+1,0,none⟩) 1 1,.slice none 0 0] [.string ⟨#[119,46,120]⟩,.int .i64 1,.int .i64 life,.slice (some ⟨X+1,0,none⟩) 1 1,.slice none 0 0] rfl rfl (by omega) c5 ?_ ?_ ?_
   ·exact⟨⟨#[120]⟩,_,_,rfl,by decide,gL (R:=bn) [.string ⟨#[97]⟩,.int .i64 0,.int .i64 0] (by omega) c3 ⟨⟨#[97]⟩,rfl,by decide,rfl⟩,ki _ _ _ _,rfl⟩
   ·exact⟨⟨#[120]⟩,_,_,rfl,by decide,gL (R:=bn) [.string ⟨#[]⟩,.int .i64 1,.int .i64 0] (by omega) c4 ⟨⟨#[]⟩,rfl,by decide,rfl⟩,ki _ _ _ _,rfl⟩
   ·exact⟨⟨#[119,46,120]⟩,_,_,rfl,by decide,gL (R:=bn) [.string ⟨#[]⟩,.int .i64 7,.int .i64 0] (by omega) c1 ⟨⟨#[]⟩,rfl,by decide,rfl⟩,ki _ _ _ _,rfl⟩
  ·exact gL (R:=bn) [.string ⟨#[]⟩,.int .i64 1,.int .i64 1] (by omega) c7 ⟨⟨#[]⟩,rfl,by decide,rfl⟩
  ·exact gL (R:=jn) [.int .i64 1] (by omega) c11 rfl
 have e0:=c0 0 _ rfl;have e1:=c0 1 _ rfl;have e2:=c0 2 _ rfl;have e3:=c0 3 _ rfl;have e4:=c0 4 _ rfl;have e5:=c0 5 _ rfl;have e6:=c0 6 _ rfl;have e7:=c0 7 _ rfl;have e8:=c0 8 _ rfl;simp only[Nat.zero_add] at e0 e1 e2 e3 e4 e5 e6 e7 e8;exact bodyPost_ret (v:=.agg #[.slice (some ⟨X+1+1+1+1+1+1+1+1+1,0,none⟩) 1 1,.slice (some ⟨X+1+1+1+1+1+1+1+1+1+1,0,none⟩) 1 1,.string ⟨#[46]⟩,.int .i64 6,.int .i64 0,.slice (some ⟨X+1+1+1+1+1+1+1,0,none⟩) 1 1,.slice (some ⟨X+1+1+1+1+1+1+1+1+1+1+1,0,none⟩) 1 1,.int .i64 2,.int .i64 50]) (by simp[results,results54,go_sem,e0,e1,e2,e3,e4,e5,e6,e7,e8]) rfl ⟨[.slice (some ⟨X+1+1+1+1+1+1+1+1+1,0,none⟩) 1 1,.slice (some ⟨X+1+1+1+1+1+1+1+1+1+1,0,none⟩) 1 1,.string ⟨#[46]⟩,.int .i64 6,.int .i64 0,.slice (some ⟨X+1+1+1+1+1+1+1,0,none⟩) 1 1,.slice (some ⟨X+1+1+1+1+1+1+1+1+1+1+1,0,none⟩) 1 1,.int .i64 2,.int .i64 50],rfl,hR,hb⟩
theorem Yw:fV RTx:=λ_ _ _ _ _ _ _ h=>h
theorem vM{α:Type}{R:World->Nat->List Value->α->Prop}{sz:Nat}{w:World}{B:Nat}{v:Value}{xs:List α}(h:SlR R sz w B v xs):∃ A n c,v = .slice A n c:=by
 obtain⟨A,c,rfl,_⟩:=al h;exact⟨_,_,_,rfl⟩
theorem Np.OE{z:Np.Zone}(v:Np.VZone z){x:Np.Signed}(hx:x∈z.sets):Np.UseB x:=by
 obtain⟨_,hv⟩:=Np.zH v;obtain⟨_,_,_,h4,h5,_⟩:=Np.tV (hv x hx);refine⟨by omega,λg r hg=>?_⟩
 have:=((v.form x hx).2 0 g (by rw[hg];rfl)).win
 omega
theorem Np.XB{h:Np.Hist}(v:Np.VHist h){z:List UInt8}{x:Np.Held}(hx:x∈Np.pub h.copies z):Np.UseB x.signed:=by
 obtain⟨_,_,_,⟨c,hc,_,h1⟩,_⟩:=Np.nO v.full hx;exact Np.OE (v.each c hc).zone h1
theorem Np.XA{h:Np.Hist}(v:Np.VHist h){z:List UInt8}{x:Np.Held}(hx:x∈Np.pub h.copies z):∀ s∈x.fresh,0<=s.frm/\s.frm<s.til/\s.til<=10000000:=λs hs=>by
 obtain⟨_,_,m3,_,m5⟩:=Np.nO v.full hx;have hf:=m3.full s hs;obtain⟨c,hc,_,_,k1,_⟩:=(m5 s.frm).1 ⟨s,hs,Int.le_refl _,hf⟩;obtain⟨d,hd,_,_,_,k2⟩:=(m5 (s.til - 1)).1 ⟨s,hs,by omega,by omega⟩;have e1:=(v.each c hc).times;have e2:=(v.each d hd).times;have e3:=v.stop;omega
theorem Np.Xs{h:Np.Hist}(v:Np.VHist h)(u:Np.Use h){x:Np.Held}(hx:x∈Np.pubAll h):Np.UseB x.signed/\(∀ s∈x.fresh,0<=s.frm/\s.frm<s.til/\s.til<=10000000)/\x.fresh.length<=20000:=by
 obtain⟨z,_,hz⟩:=Np.B9.1 hx;refine⟨Np.XB v hz,Np.XA v hz,?_⟩;have hp:=u.pairs z;unfold Np.pub Np.uS at hz;obtain⟨s,_,rfl⟩:=List.mem_map.1 hz;exact yQ (Gp _) (yQ (NY _ _) (by omega))
theorem Np.Use.pubTo{h:Np.Hist}(u:Np.Use h)(k:Nat):(Np.pubTo h k).length<=2100:=Np.MS (λc hc=>(u.each c hc).1) u.copies k
theorem Np.Use.pubAll{h:Np.Hist}(u:Np.Use h):(Np.pubAll h).length<=2100:=Np.Xr (λc hc=>(u.each c hc).1) u.copies
theorem Er(e:List Value)(h:Np.Hist)(w:World)(hV:gP w.heap.size w)(k:iC w e h) :
 Calls prog 19 #[.agg e.toArray] w λe w'=>∃ A n c,e = .returned (.tuple #[.slice A n c,.int .i64 (Np.qI h).1])/\(Np.qI h).2.length=n/\fR ii 8 0 w.heap.size w' (.slice A n c) (Np.qI h).2/\Below w.heap.size w w':=by
 obtain⟨A1,n1,c1,A2,n2,c2,s,ty,lf,A3,n3,c3,A4,n4,c4,dr,st,rfl,-,-,aA,yw,qW⟩:=vI k.rh;have ud:Hid (h.drift=dr):=jq (by
  obtain⟨hv,cv,s',dv,cN,he,_⟩:=k.rh;simp only[List.cons.injEq,Value.int.injEq,true_and,and_true] at he;exact he.2.2.2.2.2.2.2.1.symm)
 have kU:=jq hV;have HI0:=jq k;obtain⟨X,hX⟩:∃ X,w.heap.size=X:=⟨_,rfl⟩;obtain⟨w1,ah⟩:∃ w1,w.alloc (.cells #[.slice A1 n1 c1,.slice A2 n2 c2,.string s,.int .i64 ty,.int .i64 lf,.slice A3 n3 c3,.slice A4 n4 c4,.int .i64 dr,.int .i64 st] 29)=w1:=⟨_,rfl⟩;have bj:w1.heap.size=X+1:=by rw[<-ah,<-hX];simp
 have hb:Below w.heap.size w w1:=by rw[<-ah];exact (vQ _ _).alloc (bQ _) _
 have aw:=jq hb;have ea:=jq (hV.next hb);have mh:=jq (k.keep hb);have aY:=jq (ku _ _ hX ah);clear hb hV k aA yw qW;have k0:=aY.out 0 _ rfl;have k1:=aY.out 1 _ rfl;have k2:=aY.out 2 _ rfl;have k3:=aY.out 3 _ rfl;have k4:=aY.out 4 _ rfl;have k5:=aY.out 5 _ rfl;have k6:=aY.out 6 _ rfl;have k7:=aY.out 7 _ rfl;have k8:=aY.out 8 _ rfl;obtain⟨ax,uM⟩:∃ a,Np.qI h=a:=⟨_,rfl⟩;rw[uM];have zJ:=jq uM;clear uM;go_enter func19,ntmps19;go_wp2_with fail;clear ah;refine (cZon _ h w1 ea.out mh.out).mono ?_;rintro e w2 ⟨Az,nz,cz,rfl,K2,dJ,hb⟩;have aj:=jq (aw.out.trans (hb.mono aw.out.size));have gz:=jq (ea.out.next hb);have nX:=jq (mh.out.keep hb);have bE:=jq (aY.out.keep hb (by omega));have aJ:=hb.size;have ie:=jq (dJ.all Yw);have Ij:=jq K2;clear hb dJ K2 k0 k1 k2 k3 k4 k5 k6 k7 k8;by_cases kw:Np.VHist h
 case neg=>
  rw[Np.OA kw];have HN:=jq kw;clear kw;go_wp2_with fail;refine bodyPost_ret (v:=.tuple #[.slice none 0 0,.int .i64 1]) (by simp[results,results19,go_sem]) rfl ?_;rw[<-zJ.out,Np.Jm HN.out];exact⟨_,_,_,rfl,rfl,fR.nil _ _ _ _,aj.out⟩
 case pos=>
  have eX:=jq kw;rw[Np.OB kw] at ie Ij |-;have OK:=jq (zJ.out.symm.trans (Np.Ek kw));have IK:Hid (SlR RTx 1 w2 w2.heap.size (.slice Az nz cz) (Np.apexes h.copies)):=jq ie.out;have Dy:Hid ((Np.apexes h.copies).length=nz):=jq Ij.out;have Pm:Hid (0<=dr/\dr<=1000):=jq (by rw[<-ud.out];exact kw.drift);clear kw;obtain⟨B,hB⟩:∃ B,w2.heap.size=B:=⟨_,rfl⟩;have hXB:X<B:=by omega
  obtain⟨i0,my,eM,Vw,Vy⟩:=info_parts Tryz.infoHeldA;have tc:nz<=cz:=by
   obtain⟨A',c',h1,h2,_⟩:=al IK.out;simp only[Value.slice.injEq] at h1;omega
  have iU:nz<=1000:=by
   have h1:=Dy.out;have h2:=Jn h.copies;have h3:=nX.out.use.copies;omega
  go_wp2_with fail;go_loopw [6,23] (λvo i wr=>∃ (k m:Nat) (A:Option Addr) (c:Nat) (M:Nat->Prop),k<=nz/\i = .int .i64 k/\vo = .slice A m c/\(Np.pubTo h k).length=m/\Hid ((∀ j,j<X->M j)/\∀ j,M j->(j<X\/B<=j)/\j<wr.heap.size)/\Hid (br ii 8 57 B M wr (.slice A m c) (Np.pubTo h k))/\Hid (Below B w2 wr)) (λ_ i _=>nz - (intOf i).toNat)
  case atStart=>exact⟨0,0,none,0,λj=>j<X,jQ _,rfl,rfl,rfl,jq ⟨λ_ h=>h,λj h=>⟨.inl h,by omega⟩⟩,jq (br.nil _),jq (vQ _ _)⟩
  case round=>
   obtain⟨k,m,A,c,M,hk,rfl,rfl,hm,HM,HO,HB⟩:=hrel;have an:=HB.out.size;have iT:m<=2100:=by rw[<-hm];exact nX.out.use.pubTo k
   have gd:=jq hm;clear hm;by_cases aa:k<nz
   ·obtain⟨z,ab⟩:∃ z,(Np.apexes h.copies)[k]?=some z:=⟨_,aQ (by have:=Dy.out;omega)⟩;have cD:=IK.out.later mc Nn (show Below w2.heap.size w2 wr by rw[hB];exact HB.out);obtain⟨b,o,zs,rfl,bG,tG,nN,e0⟩:=oT cD ab;have QM:=jq tG;have I6:=jq (Np.vw.1 (gQ ab));have DS:=jq (Np.Xv ab);have QE:=jq (gz.out.next (show Below w2.heap.size w2 wr by rw[hB];exact HB.out));have PA:=jq (nX.out.keep (show Below w2.heap.size w2 wr by rw[hB];exact HB.out));have iA:=jq (bE.out.keep HB.out (by omega));have k0:=iA.out 0 _ rfl;have k1:=iA.out 1 _ rfl;have k2:=iA.out 2 _ rfl;have k3:=iA.out 3 _ rfl;have k4:=iA.out 4 _ rfl;have k5:=iA.out 5 _ rfl;have k6:=iA.out 6 _ rfl;have k7:=iA.out 7 _ rfl;have k8:=iA.out 8 _ rfl;have bO:(0:Int)<=(k:Int):=by omega
    have bM:(k:Int)<(nz:Int):=by omega
    clear cD ab tG;go_wp2_with fail;refine (cPub _ h zs nN wr QE.out PA.out).mono ?_;rw[QM.out];rintro e w3 ⟨Ap,np,cp,rfl,yE,BT,hb⟩;have bp:Np.oN h z=(0,Np.pub h.copies z):=Np.MT ⟨eX.out,by
     obtain⟨c',hc',rfl⟩:=I6.out;exact (Np.zH (eX.out.each c' hc').zone).1⟩ I6.out
    rw[bp] at yE BT |-;dsimp only at yE BT;have km:=jq yE;have lF:Hid (qH ii 8 M w3 Ap (Np.pub h.copies z)):=jq (Yt (BT M (λj hj=>⟨jQ _,(HM.out.2 j hj).2⟩)) (by decide));have gh:=jq (HO.out.keep zw rK vH hb);have ar:=jq (HB.out.trans (hb.mono (by omega)));have el:=hb.size;have hmp:m+np<=2100:=by
     have h1:=nX.out.use.pubTo (k+1);rw[DS.out,List.length_append,gd.out,yE] at h1;exact h1
    have kS:=jq (HO.out.lt);clear hb yE BT bp k0 k1 k2 k3 k4 k5 k6 k7 k8 e0;go_wp2_with (at_builtin;refine G1 (R:=ii) (M:=M) w3 rfl _ _ 52 rfl B 57 i0 (.agg #[.string ⟨#[]⟩,.string ⟨#[]⟩,.int .i64 0,.int .i64 0,.slice none 0 0,.slice none 0 0,.slice none 0 0,.slice none 0 0]) 144 underlying52 my eM Vw Vy rfl (by decide) (.slice A m c) (Np.pubTo h k) rfl gh.out Ap cp (Np.pub h.copies z) (by rw[km.out];rfl) lF.out Yo (by rw[gd.out,km.out];unfold maxLen;omega) (by rw[gd.out,km.out];omega) (by omega) zw rK vH ?_;intro v8 w8 gl dz lM;obtain⟨A8,c8,rfl⟩:=br.formN gl (n:=m+np) (by rw[List.length_append,gd.out,km.out]);have H8:=jq (And.intro gl (And.intro dz lM));clear gl dz lM);have nA:decide ((20000:Int)<((m+np:Nat):Int))=false:=tQ (by omega);have vt:=H8.out.2.1.size;go_wp2_with fail;go_roundw
    case rel=>
     refine⟨k+1,m+np,A8,c8,_,by omega,by go_num,rfl,by rw[DS.out,List.length_append,gd.out,km.out],jq ⟨λj hj=>Or.inl (HM.out.1 j hj),λj hj=>?_⟩,jq (by rw[DS.out];exact H8.out.1),jq (ar.out.trans ((vQ _ _).grown H8.out.2.1 (by omega) (λg hg=>(kS.out g hg).1)))⟩;rcases hj with hj | hj
     ·have:=HM.out.2 j hj
      omega
     ·have:=H8.out.1.lt j hj
      omega
    case measure=>simp[intOf] <;> omega
   ·have PZ:Hid (Np.pubTo h k=Np.pubAll h):=jq (Np.MR (by have:=Dy.out;omega));rw[PZ.out] at HO gd;go_wp2_with fail;clear aa hk;obtain⟨w4,rfl⟩:∃ w',w'=wr:=⟨_,rfl⟩;go_loopw [45] (λi wr=>∃ (k:Nat),k<=m/\i = .int .i64 k/\w4.heap.size<=wr.heap.size/\Hid (br ii 8 57 B M wr (.slice A m c) (Np.mq dr (Np.pubAll h) k))/\Hid (Below B w2 wr)) (λi _=>m - (intOf i).toNat)
    case atStart=>exact⟨0,jQ _,rfl,bQ _,HO,HB⟩
    case round=>
     obtain⟨k,hk,rfl,FN,dG,HC⟩:=hrel;have iW:=HC.out.size;have lC:Hid ((Np.mq dr (Np.pubAll h) k).length=m):=jq (by rw[Np.Q1];exact gd.out);by_cases aa:k<m
     ·obtain⟨x,ab⟩:∃ x,(Np.pubAll h)[k]?=some x:=⟨_,aQ (by rw[gd.out];exact aa)⟩;obtain⟨g,cap,hA,EL,Fp,hMg⟩:=dG.out.formSome lC.out (by omega);simp only[Value.slice.injEq,true_and] at hA;obtain⟨rfl,rfl⟩:=hA;obtain⟨b,o,zs,sn,dv,sv,fv,pv,qU,bG,tG,ay,aW,aM,pC,pO,e0,e1,e2,e3,e4,e5,e6,e7⟩:=KB (dG.out.slr rK (by rw[lC.out];omega)) (Np.Jl ab);simp only[Option.some.injEq,Addr.mk.injEq,and_true] at qU;obtain⟨rfl,rfl⟩:=qU;obtain⟨dA,dn,dc,rfl⟩:=vM aW;obtain⟨gA,gn,gc,rfl⟩:=vM aM;obtain⟨fA,fn,fc,rfl⟩:=vM pC;obtain⟨pA,pn,pc,rfl⟩:=vM pO;have qC:=jq aM;have Dk:=jq pC;have Au:=jq (Np.Xs eX.out nX.out.use (gQ ab));have HAT:=jq (Np.Jl (d:=dr) ab);have cJ:=jq (Np.Q2 (d:=dr) ab);obtain⟨w5,aS⟩:∃ w',wr.alloc (.cells #[.string zs,.string sn,.int .i64 x.signed.set.type,.int .i64 x.signed.set.life,.slice dA dn dc,.slice gA gn gc,.slice fA fn fc,.slice pA pn pc] 57)=w':=⟨_,rfl⟩;have aI:Below wr.heap.size wr w5:=by rw[<-aS];exact (vQ _ _).alloc (bQ _) _
      have iX:wr.heap.size<w5.heap.size:=by rw[<-aS];simp
      have gr:=jq (ku _ _ rfl aS);have cx:=jq aI;have jI:=jq (HC.out.trans (aI.mono (by omega)));have k7:=(bE.out.keep jI.out (by omega)) 7 _ rfl;have bO:(0:Int)<=(k:Int):=by omega
      have bM:(k:Int)<(m:Int):=by omega
      have E7:Hid (wr.cell? ⟨g,k * 8+7,none⟩=some (.slice pA pn pc)):=jq (by simpa using e7);simp only[Nat.zero_add] at e0 e1 e2 e3 e4 e5 e6 e7;have d0:=gr.out 0 _ rfl;have d1:=gr.out 1 _ rfl;have d2:=gr.out 2 _ rfl;have d3:=gr.out 3 _ rfl;have d4:=gr.out 4 _ rfl;have d5:=gr.out 5 _ rfl;have d6:=gr.out 6 _ rfl;have d7:=gr.out 7 _ rfl;clear ab tG ay aW aM pC pO aI;go_wp2_with fail;clear aS e0 e1 e2 e3 e4 e5 e6 e7 d0 d1 d2 d3 d4 d5 d6 d7;refine (Zw x Au.out.1 dr Pm.out Au.out.2.1 Au.out.2.2 zs sn dA gA fA pA dn dc gn gc fn fc pn pc w5 (qC.out.later ep gp cx.out) (Dk.out.later iw qh cx.out)).mono ?_;rintro e w6 ⟨v6,rfl,lV,hb⟩;obtain⟨A6,c6,rfl⟩:=lV.form;obtain⟨n6,FC⟩:∃ n,(Np.kj x dr).length=n:=⟨_,rfl⟩;rw[FC] at lV |-;have pd:=jq lV;have gm:=hb.size;have fH:=jq (cx.out.trans (hb.mono (by omega)));have Ir:=jq (dG.out.keep zw rK vH fH.out);have q7:=(cl fH.out (by omega)).trans E7.out;have z7:=Ir.out.frozenAt lC.out (k * 8+7);have Io:=jq FC;clear lV hb k7 FC;go_wp2_with fail;go_roundw
      case rel=>
       refine⟨k+1,by omega,by go_num,by simp[World.setCell];omega,jq ?_,jq ((HC.out.trans (fH.out.mono (by omega))).setCell (by dsimp only;omega) _)⟩;rw[<-cJ.out];have BU:SlR dU 2 (bd w6 M) w6.heap.size (.slice A6 n6 c6) (Np.kj x dr):=(pd.out.around (n:=w5.heap.size) (bQ _) (by rw[Io.out];have:=Gp (x.fresh.map (Np.js x.signed dr));have h2:=Io.out;unfold Np.kj at h2;rw[List.length_map] at this;have:=Au.out.2.2;omega)) M (λj hj=>⟨jQ _,by have:=(HM.out.2 j hj).2;omega⟩)
       have:=br.stored zw rK vH Ir.out lC.out HAT.out (c:=7) (by decide) (.slice A6 n6 c6) (y:=⟨x.zone,x.signed,x.fresh,Np.kj x dr⟩) (λr _ hr=>Yp hr BU)
       simpa using this
      case measure=>simp[intOf] <;> omega
     ·have aZ:Hid (Np.mq dr (Np.pubAll h) k=Np.cK h):=jq (by rw[<-ud.out];exact Np.Q0 (by rw[gd.out];omega));rw[aZ.out] at dG lC;have HE:Hid (Below w.heap.size w wr):=jq (aj.out.trans (HC.out.mono (by omega)));go_wp2_with fail;refine bodyPost_ret (v:=.tuple #[.slice A m c,.int .i64 0]) (by simp[results,results19,go_sem]) rfl ?_;rw[OK.out];refine⟨_,_,_,rfl,lC.out,λM' hM'=>?_,HE.out⟩;exact dG.out.slr_sans rK vH (λj hj=>⟨HM.out.1 j (by have:=(hM' j hj).2;omega),λe=>by have:=(dG.out.lt j e).1;have:=(hM' j hj).2;omega⟩) (by rw[lC.out];omega)
end
section
open Go.RowKit Go.Shelf Go.MapKept
attribute [local go_sem] Oper.semAt_some HC.cells
theorem Tryz.infoSignedP:(prog.info? 42).map (λi=>(i.zero,i.size,i.bytes))=some (some (.agg #[.string ⟨#[]⟩,.int .i64 0,.int .i64 0,.slice none 0 0,.slice none 0 0]),5,80):=by kernel_rfl
theorem br.sameM{α:Type}{R:World->Nat->List Value->α->Prop}{sz:Nat}{e:TypeId}{base:Nat}{M M':Nat->Prop}{w:World}{v:Value}{xs:List α}(h:br R sz e base M w v xs)(hM:∀ k,M k↔M' k):br R sz e base M' w v xs:=by
 have:M=M':=funext λk=>propext (hM k)
 rw[<-this];exact h
theorem Yv:∀ (w:World) (B:Nat) (r:List Value) (y:Np.Signed),bh w B r y->∀ u∈r,u.oneCell'=true:=λw B r y ⟨s,v,u',_,_,h3,h4,h5⟩ u hu=>by
 obtain⟨A,c,rfl,_⟩:=al h3;obtain⟨A',c',rfl,_⟩:=al h4;rw[h5] at hu;simp only[List.mem_cons,Qh,or_false] at hu;rcases hu with rfl | rfl | rfl | rfl | rfl <;> rfl
def usP(n:List UInt8)(ty:Int)(pre:List (HC×Np.Held)):List Np.Signed:=Np.cE (Np.po (pre.map (·.2)) n ty)
theorem N7{n:List UInt8}{ty:Int}{pre:List (HC×Np.Held)}{x:HC×Np.Held}(h:¬ (x.2.signed.set.name=n/\x.2.signed.set.type=ty)):usP n ty (pre ++ [x])=usP n ty pre:=by
 unfold usP;rw[List.map_append,List.map_singleton,Np.Eo,Qc h]
theorem Zs{n:List UInt8}{ty:Int}{pre:List (HC×Np.Held)}{x:HC×Np.Held}(h:x.2.signed.set.name=n/\x.2.signed.set.type=ty)(hu:x.2.signed∈usP n ty pre):usP n ty (pre ++ [x])=usP n ty pre:=by
 unfold usP at hu |-;rw[List.map_append,List.map_singleton,Np.Eo,Qb h,Np.zG,Np.Ej hu]
theorem Zr{n:List UInt8}{ty:Int}{pre:List (HC×Np.Held)}{x:HC×Np.Held}(h:x.2.signed.set.name=n/\x.2.signed.set.type=ty)(hu:x.2.signed∉usP n ty pre):usP n ty (pre ++ [x])=usP n ty pre ++ [x.2.signed]:=by
 unfold usP at hu |-;rw[List.map_append,List.map_singleton,Np.Eo,Qb h,Np.zG,Np.jp,Qc hu]
theorem Zq{n:List UInt8}{ty:Int}{pre:List (HC×Np.Held)}{s:Np.Signed}(h:s∈usP n ty pre):∃ x∈pre,x.2.signed=s:=by
 unfold usP Np.po at h;rw[Np.tJ,List.mem_map] at h;obtain⟨y,hy,rfl⟩:=h;obtain⟨x,hx,rfl⟩:=List.mem_map.1 (List.mem_filter.1 hy).1;exact⟨x,hx,rfl⟩
theorem Zp(n:List UInt8)(ty:Int)(pre:List (HC×Np.Held)):(usP n ty pre).length<=pre.length:=by
 unfold usP Np.po;have h1:=Np.rM (((pre.map (·.2)).filter λx=>(x.signed.set.name == n)&&decide (x.signed.set.type=ty)).map (·.signed));rw[List.length_map] at h1;have h2:=List.length_filter_le (λx:Np.Held=>(x.signed.set.name == n)&&decide (x.signed.set.type=ty)) (pre.map (·.2));rw[List.length_map] at h2;omega
theorem YX{α:Type}{R:World->Nat->List Value->α->Prop}{sz B:Nat}{w w':World}{v:Value}{xs:List α}(h:SlR R sz w B v xs)(he:w'.heap=w.heap)(hR:∀ e x,R w B e x->R w' B e x:=by exact λ_ _ h=>h):SlR R sz w' B v xs:=by
 obtain⟨A,c,h1,h2,h3,h4⟩:=h;refine⟨A,c,h1,h2,h3,λi x hx=>?_⟩;obtain⟨b,o,e,h5,h6,h7,h8,h9⟩:=h4 i x hx;exact⟨b,o,e,h5,h6,h7,λj v hj=>(iQ (by rw[he])).trans (h8 j v hj),hR _ _ h9⟩
def Ee(w6:World)(Mb Ob:Nat)(n:List UInt8)(ty:Int)(pre:List (HC×Np.Held))(S:Nat->Prop)(W:World):Prop:=
 ∃ v,(∀ k,S k↔(k=Mb\/k=Ob)\/v.ownBlock=some k)/\cA Mb (Np.lu (usP n ty pre)) W/\Boxed W Ob 36 v/\br bh 5 42 w6.heap.size (λk=>Mb<=k) W v (usP n ty pre)/\RdStep (λk=>k=Mb\/k=Ob) w6 W
theorem ML(w6:World)(Mb Ob:Nat)(n:List UInt8)(ty:Int)(hM:Mb<=w6.heap.size):eY w6.heap.size (Ee w6 Mb Ob n ty):=by
 rintro pre S W W' ⟨v,hS,h1,h2,h3,h4⟩ aA;refine⟨v,hS,h1.stays (aA.keep Mb h1.lt (.inr ((hS _).2 (.inl (.inl rfl))))),jr h2 aA ((hS _).2 (.inl (.inr rfl))),?_,⟨aA.os.trans h4.os,aA.tape.trans h4.tape,aA.output.trans h4.output,yQ h4.size aA.size,λk hk tn=>(aA.keep k (lQ hk h4.size) (.inl hk)).trans (h4.keep k hk tn)⟩⟩;exact h3.leaves aX mb cj ⟨aA.os,aA.tape,aA.output,aA.size,λi hi hm=>⟨hm,aA.keep i hi (.inl (by omega))⟩⟩ (λg hg=>⟨aA.keep g (h3.lt g hg).2 (.inr ((hS g).2 (.inr hg))),by have:=(h3.lt g hg).1;omega⟩)
theorem Np.Xt{h:Np.Hist}(v:Np.VHist h)(hs:Np.jo h){x:Np.Held}(hx:x∈Np.pubAll h):KeyS x.signed/\Np.Plain47 x.signed:=by
 obtain⟨z,_,hz⟩:=Np.B9.1 hx;obtain⟨_,_,_,⟨c,hc,_,h1⟩,_⟩:=Np.nO v.full hz;exact⟨OD (v.each c hc).zone h1 (hs c hc _ h1),Np.G4 (v.each c hc).zone h1 (hs c hc _ h1)⟩
theorem Np.QZ{h:Np.Hist}(v:Np.VHist h)(hs:Np.jo h){x:Np.Held}(hx:x∈Np.cK h):KeyS x.signed/\Np.Plain47 x.signed:=by
 obtain⟨y,hy,rfl⟩:=List.mem_map.1 hx;show KeyS y.signed/\Np.Plain47 y.signed;exact Np.Xt v hs hy
theorem uz(e:List Value)(h:Np.Hist)(q:ByteArray)(hq:q.size<=140737488355328)(ty t:Int)(w:World)(hV:gP w.heap.size w)(k:iC w e h) :
 Calls prog 17 #[.agg e.toArray,.agg #[.string q,.int .i64 ty],.int .i64 t] w λe w'=>∃ A n c,e = .returned (.tuple #[.slice A n c,.int .i64 (Np.qf h q.data.toList ty t).1])/\(Np.qf h q.data.toList ty t).2.length=n/\SlR bh 5 w' w'.heap.size (.slice A n c) (Np.qf h q.data.toList ty t).2/\Below w.heap.size w w':=by
 obtain⟨A1,n1,c1,A2,n2,c2,s,ty0,lf,A3,n3,c3,A4,n4,c4,dr,st,rfl,-,-,-,-,-⟩:=vI k.rh;obtain⟨X,hX⟩:∃ X,w.heap.size=X:=⟨_,rfl⟩;obtain⟨px,bp⟩:∃ a,Np.qf h q.data.toList ty t=a:=⟨_,rfl⟩;rw[bp];have sB:=jq bp;obtain⟨w1,ah⟩:∃ w1,(w.alloc (.cells #[.slice A1 n1 c1,.slice A2 n2 c2,.string s,.int .i64 ty0,.int .i64 lf,.slice A3 n3 c3,.slice A4 n4 c4,.int .i64 dr,.int .i64 st] 29)).alloc (.cells #[.string q,.int .i64 ty] 31)=w1:=⟨_,rfl⟩;have bj:w1.heap.size=X+2:=by rw[<-ah,<-hX];simp
 have hb:Below w.heap.size w w1:=by rw[<-ah];exact ((vQ _ _).alloc (bQ _) _).alloc (by simp) _
 have aq:=jq hb;have ea:=jq (hV.next hb);have mh:=jq (k.keep hb);have aY:Hid (nR w1 X [.slice A1 n1 c1,.slice A2 n2 c2,.string s,.int .i64 ty0,.int .i64 lf,.slice A3 n3 c3,.slice A4 n4 c4,.int .i64 dr,.int .i64 st]):=jq (by
  rw[<-ah,<-hX];exact (ku [.slice A1 n1 c1,.slice A2 n2 c2,.string s,.int .i64 ty0,.int .i64 lf,.slice A3 n3 c3,.slice A4 n4 c4,.int .i64 dr,.int .i64 st] 29 rfl rfl).keep ((vQ _ _).alloc (bQ _) _) (by simp))
 have q0:w1.cell? ⟨X+1,0,none⟩=some (.string q):=by rw[<-ah,<-hX];simp[go_sem]
 have q1:w1.cell? ⟨X+1,1,none⟩=some (.int .i64 ty):=by rw[<-ah,<-hX];simp[go_sem]
 have kp:=jq (And.intro q0 q1);have qA:=jq hq;clear hb hV k bp hq;have k0:=aY.out 0 _ rfl;have k1:=aY.out 1 _ rfl;have k2:=aY.out 2 _ rfl;have k3:=aY.out 3 _ rfl;have k4:=aY.out 4 _ rfl;have k5:=aY.out 5 _ rfl;have k6:=aY.out 6 _ rfl;have k7:=aY.out 7 _ rfl;have k8:=aY.out 8 _ rfl;refine (callsIn_wide (n:=0)).1 ?_;refine callsIn_of_wp_marks func17 rfl trivial ?_ rfl;simp only[ntmps17,List.size_toArray,List.length_cons,List.length_nil,Nat.reduceAdd,Nat.reduceSub,Array.replicate_succ,Array.replicate_zero,List.push_toArray,List.append_toArray,List.nil_append,List.cons_append];gi_wp2_with fail;clear ah;refine⟨trivial,rfl,?_⟩;refine (callsIn_wide.2 (Rk _ h w1 ea.out mh.out)).mono ?_;rintro e w2 ⟨rfl,hb⟩;have aJ:=hb.size;have aj:=jq (aq.out.trans (hb.mono (by omega)));have gz:=jq (ea.out.next hb);have nX:=jq (mh.out.keep hb);have bE:=jq (aY.out.keep hb (by omega));replace q0:=(cl hb (by omega)).trans q0;replace q1:=(cl hb (by omega)).trans q1;have mP:=jq hb;clear hb k0 k1 k2 k3 k4 k5 k6 k7 k8;by_cases kw:Np.VHist h
 case neg=>
  rw[Np.aF kw];have HN:=jq kw;clear kw;have kN:Hid (px=((1:Int),[])):=jq (by rw[<-sB.out];exact Np.Cf (λk=>HN.out k.1));gi_wp2_with fail;refine⟨trivial,?_⟩;gi_wp2_with fail;refine mu (v:=.tuple #[.slice none 0 0,.int .i64 1]) (by simp[results,results17,go_sem]) ?_;rw[kN.out];exact⟨_,_,_,rfl,rfl,ki _ _ _ _,aj.out⟩
 case pos=>
  rw[Np.bB kw];have eX:=jq kw;clear kw;gi_wp2_with fail;refine⟨trivial,rfl,?_⟩;refine (callsIn_wide.2 (UE q qA.out ty w2)).mono ?_;rintro e w3 ⟨rfl,hb⟩;have el:=hb.size;have ar:=jq (aj.out.trans (hb.mono (by omega)));have kq:=jq (gz.out.next hb);have qv:=jq (nX.out.keep hb);have bF:=jq (bE.out.keep hb (by omega));have rU:=jq (mP.out.trans (hb.mono (by omega)));clear hb q0 q1;by_cases hQ:Np.QOk q.data.toList ty
  case neg=>
   rw[Np.aF hQ];have HN:=jq hQ;clear hQ;have kN:Hid (px=((1:Int),[])):=jq (by rw[<-sB.out];exact Np.Cf (λk=>HN.out k.2.1));gi_wp2_with fail;refine mu (v:=.tuple #[.slice none 0 0,.int .i64 1]) (by simp[results,results17,go_sem]) ?_;rw[kN.out];exact⟨_,_,_,rfl,rfl,ki _ _ _ _,ar.out⟩
  case pos=>
   rw[Np.bB hQ];have Qf:=jq hQ;clear hQ;by_cases yX:t<0
   ·have uP:decide (t<0)=true:=uQ yX;have HN:=jq yX;clear yX;have kN:Hid (px=((1:Int),[])):=jq (by rw[<-sB.out];exact Np.Cf (λk=>by have:=k.2.2.1;have:=HN.out;omega));gi_wp2_with fail;refine mu (v:=.tuple #[.slice none 0 0,.int .i64 1]) (by simp[results,results17,go_sem]) ?_;rw[kN.out];exact⟨_,_,_,rfl,rfl,ki _ _ _ _,ar.out⟩
   ·have uP:decide (t<0)=false:=tQ yX;by_cases yY:20000000<t
    ·have gS:decide (20000000<t)=true:=uQ yY;have HN:=jq yY;clear yY;have kN:Hid (px=((1:Int),[])):=jq (by rw[<-sB.out];exact Np.Cf (λk=>by have:=k.2.2.2;have:=HN.out;omega));gi_wp2_with fail;refine mu (v:=.tuple #[.slice none 0 0,.int .i64 1]) (by simp[results,results17,go_sem]) ?_;rw[kN.out];exact⟨_,_,_,rfl,rfl,ki _ _ _ _,ar.out⟩
    ·have gS:decide (20000000<t)=false:=tQ yY;have bk:Hid (Np.uv h q.data.toList ty t):=jq ⟨eX.out,Qf.out,by omega,by omega⟩;have zJ:Hid (px=((0:Int),Np.dP (Np.cK h) q.data.toList ty t)):=jq (by rw[<-sB.out];exact Np.zm bk.out);clear yX yY;have k0:=bF.out 0 _ rfl;have k1:=bF.out 1 _ rfl;have k2:=bF.out 2 _ rfl;have k3:=bF.out 3 _ rfl;have k4:=bF.out 4 _ rfl;have k5:=bF.out 5 _ rfl;have k6:=bF.out 6 _ rfl;have k7:=bF.out 7 _ rfl;have k8:=bF.out 8 _ rfl;gi_wp2_with fail;refine⟨trivial,rfl,?_⟩;refine (callsIn_wide.2 (Er _ h w3 kq.out qv.out)).mono ?_;rw[Np.Ek eX.out];rintro e w4 ⟨Aa,na,ca,rfl,fB,Lp,hb⟩;have em:=hb.size;have ba:=jq (ar.out.trans (hb.mono (by omega)));have OL:=jq (rU.out.trans (hb.mono (by omega)));have lD:=jq (kq.out.next hb).pow;have Qi:Hid (SlR ii 8 w4 w4.heap.size (.slice Aa na ca) (Np.cK h)):=jq (Lp.all rK);have FD:(Np.cK h).length=na:=fB;have alX:na<=2100:=by rw[<-FD];unfold Np.cK;rw[List.length_map];exact mh.out.use.pubAll
     have PN:=jq FD;clear hb Lp fB FD k0 k1 k2 k3 k4 k5 k6 k7 k8 uP gS;obtain⟨Mb,xZ⟩:∃ Mb,w4.heap.size=Mb:=⟨_,rfl⟩;have nF:∀ (w:World),(Instr.makeMap 111 none).run prog w = .ok (.map (some w.heap.size)) (w.alloc (.map #[] 0)):=λw=>by
      simp[Instr.makeMap,Result.andThen]
     obtain⟨w5,aS⟩:∃ w5,((w4.alloc (.map #[] 0)).alloc (.cells #[.map (some Mb)] 111)).alloc (.cells #[.slice none 0 0] 36)=w5:=⟨_,rfl⟩;have iX:w5.heap.size=Mb+3:=by rw[<-aS,<-xZ];simp
     have aI:Below w4.heap.size w4 w5:=by rw[<-aS];exact (((vQ _ _).alloc (bQ _) _).alloc (by simp) _).alloc (by simp <;> omega) _
     have uk:Hid (cA Mb [] w5):=jq (by
      rw[<-aS,<-xZ];exact ((cA.made w4).keep ((vQ _ _).alloc (bQ _) _) (by simp)).keep ((vQ _ _).alloc (bQ _) _) (by simp <;> omega))
     have QG:Hid (Boxed w5 (Mb+1) 111 (.map (some Mb))):=jq (by
      rw[<-aS,<-xZ]
      have:=(Boxed.new (w4.alloc (.map #[] 0)) 111 (.map (some w4.heap.size))).alloc (.cells #[.slice none 0 0] 36)
      simpa using this)
     have mX:Hid (Boxed w5 (Mb+1+1) 36 (.slice none 0 0)):=jq (by
      rw[<-aS,<-xZ]
      have:=Boxed.new ((w4.alloc (.map #[] 0)).alloc (.cells #[.map (some w4.heap.size)] 111)) 36 (.slice none 0 0)
      simpa using this)
     have cx:=jq (ba.out.trans (aI.mono (by omega)));have OM:=jq (OL.out.trans (aI.mono (by omega)));have qo:=jq aI;clear aI;gi_wp2_with fail;clear nF;refine⟨trivial,rfl,?_⟩;refine (callsIn_wide.2 (Tn _ Aa na ca rfl t w5)).mono ?_;rintro e w6 ⟨rfl,cg⟩;have gm:w6.heap.size=Mb+5:=by rw[cg];simp;omega
     have aT:Below w5.heap.size w5 w6:=by rw[cg];exact ((vQ _ _).alloc (bQ _) _).alloc (by simp) _
     have kX:w6.cell? ⟨Mb+3,0,none⟩=some (.slice Aa na ca):=by rw[cg,<-iX];simp[go_sem]
     have kT:w6.cell? ⟨Mb+3+1,0,none⟩=some (.int .i64 t):=by rw[cg,show Mb+3+1=w5.heap.size+1 by omega];simp[go_sem]
     rw[iX];have wg:=jq (qo.out.trans (aT.mono (by omega)));obtain⟨L,iL,nr,s5⟩:=TH (Qi.out.keep zw wg.out);have Ig:Hid (∀ x∈L,uc w6 w4.heap.size x.1 x.2):=jq (λx hx=>by
      obtain⟨i,hi⟩:=List.mem_iff_getElem?.1 hx;exact (s5 i x hi).1)
     have Ih:Hid (∀ x∈L,KeyS x.2.signed/\Np.Plain47 x.2.signed):=jq (λx hx=>Np.QZ eX.out mh.out.sums (by rw[<-iL];exact List.mem_map.2 ⟨x,hx,rfl⟩));have wH:=jq (To L t (Mb+3) (Mb+3+1) na ca (λk=>k<w6.heap.size/\¬ (k=Mb\/k=Mb+1+1)) Aa w6 ⟨by omega,by omega⟩ ⟨by omega,by omega⟩ kX kT nr (by omega)
      (λi x hx=>by
        obtain⟨_,b,o,h1,h2,h3⟩:=s5 i x hx;exact⟨b,o,h1,⟨by omega,by omega⟩,h3⟩)
      (λx hx W hW=>by
        have h1:=(Ig.out x hx).spans;have aG:Below w4.heap.size w6 ({ w6 with heap:=W.heap } : World):=⟨rfl,rfl,rfl,hW.1,λk hk=>(hW.2 k ⟨by omega,by omega⟩).2⟩;have h2:=(h1.keep iw aG).more qh (show w4.heap.size<=W.heap.size by have:=hW.1;omega);exact YX h2 rfl))
     have DA:Hid (cA Mb [] w6):=jq (uk.out.keep aT (by omega));have QH:Hid (Boxed w6 (Mb+1) 111 (.map (some Mb))):=jq (cG QG.out aT (by omega));have pd:Hid (Boxed w6 (Mb+1+1) 36 (.slice none 0 0)):=jq (cG mX.out aT (by omega));have dg:=jq (cx.out.trans (aT.mono (by omega)));have Ha:=jq (OM.out.trans (aT.mono (by omega)));have mW:=jq iL;have wK:=jq nr;have pg:=jq (lD.out.keep wg.out);have P2:Hid (1<Mb):=jq (by rw[<-xZ];exact lD.out.lt);have I5:=jq gm;clear aT cg aS kX kT iL s5 nr;gi_wp2_with fail;refine GZ (Dr:=λk=>k<w6.heap.size/\¬ (k=Mb\/k=Mb+1+1)) (w0:=w6) (first:=#[]) (captured:=#[.pointer (some ⟨Mb+3,0,none⟩),.pointer (some ⟨Mb+3+1,0,none⟩)]) (gf:=127) rfl Sa (mk:=λy=>#[y,.pointer (some ⟨Mb+3,0,none⟩),.pointer (some ⟨Mb+3+1,0,none⟩)]) (λ_=>rfl)
      wH.out (dH.refl λk e=>e.1) (λ_=>rfl) (Ee w6 Mb (Mb+1+1) q.data.toList ty) (λ_ _ _ _=>False)
      (ML _ _ _ _ _ (by omega)) (λc s S W W' h _=>h)
      (λk=>k=Mb\/k=Mb+1+1) (λk h1 h2=>h2.2 h1) (by intro k h;omega)
      ⟨.slice none 0 0,λk=>by simp[Value.ownBlock],DA.out,pd.out,br.nil _,RdStep.refl _ _⟩ ?round ?done ?stop
     case stop=>
      rintro D c pre S W hD fX aV fD h hK;exact h.elim
     case done=>
      rintro D S W hD fX aV ⟨v,hS,hms,eF,hown,aN⟩ hK;have qY:usP q.data.toList ty (L.filter λx=>Np.zz x.2.spans t)=Np.dP (Np.cK h) q.data.toList ty t:=by
       unfold usP;rw[Np.Xf,<-mW.out,List.filter_map];rfl
      rw[qY] at hown;obtain⟨m,hm⟩:∃ m,(Np.dP (Np.cK h) q.data.toList ty t).length=m:=⟨_,rfl⟩;have iT:m<=2100:=by rw[<-hm];have:=Np.Gr (Np.cK h) q.data.toList ty t;have:=PN.out;omega
      obtain⟨vA,vc,rfl⟩:=hown.formN hm;have HM:=jq hm;have bc:=eF.cell;have uK:=aN.size;have aa:=(eQ.1 hK).1;have jP:Hid (SlR bh 5 (W.putObj D (.deferred none)) W.heap.size (.slice vA m vc) (Np.dP (Np.cK h) q.data.toList ty t)):=jq (by
       have h1:=hown.leaves (w':=W.putObj D (.deferred none)) (M':=λk=>Mb<=k) aX mb cj ⟨rfl,rfl,rfl,by simp,λi hi FA=>⟨FA,zQ (by omega)⟩⟩ (λg hg=>⟨zQ (λe=>fX (e ▸ (hS g).2 (.inr hg))),by have:=(hown.lt g hg).1;omega⟩);have h2:=h1.slr mb (by rw[hm];omega);simpa using h2)
      have aP:Hid (Below X w W):=jq ((show Below X w w6 by rw[<-hX];exact dg.out).trans (aN.below (by omega) (λk e=>by omega)));have nZ:=jq hK;have zV:Hid (X<=D):=jq (by omega);clear hK hown eF hms hS aN qY hm;gi_wp2_with fail;refine nj nZ.out (v:=.tuple #[.slice vA m vc,.int .i64 0]) (by simp[results,results17,go_sem]) ?_;rw[zJ.out];exact⟨_,_,_,rfl,HM.out,by simpa using jP.out,by rw[hX];exact ni aP.out zV.out _⟩
     case round=>
      rintro l0 pre ⟨⟨xz,xs,xty,xlf,dA,dn,dc,gA,gn,gc,fA,fn,fc,pA,pn,pc⟩,cc⟩ S W bp hI fd;have Aw:=jq bp;have I3:Hid ((⟨xz,xs,xty,xlf,dA,dn,dc,gA,gn,gc,fA,fn,fc,pA,pn,pc⟩,cc)∈L):=jq ((List.mem_filter.1 (bp.subset (List.mem_append_right _ (List.mem_singleton.2 rfl)))).1);have rt:pre.length<=2100:=by
       have h1:=bp.length_le;have h2:=List.length_filter_le (λx:HC×Np.Held=>Np.zz x.2.spans t) L;have h3:=wK.out;rw[List.length_append,List.length_singleton] at h1;omega
      have mZ:Hid (∀ y∈pre,Np.Plain47 y.2.signed):=jq (λy hy=>(Ih.out y (List.mem_filter.1 (bp.subset (List.mem_append_left _ hy))).1).2);have no:Ee w6 Mb (Mb+1+1) q.data.toList ty pre S (W.alloc (.cells #[.string xz,.string xs,.int .i64 xty,.int .i64 xlf,.slice dA dn dc,.slice gA gn gc,.slice fA fn fc,.slice pA pn pc] 57)):=by
       obtain⟨v,hS,hms,eF,hown,aN⟩:=hI;have hb:Below W.heap.size W (W.alloc (.cells #[.string xz,.string xs,.int .i64 xty,.int .i64 xlf,.slice dA dn dc,.slice gA gn gc,.slice fA fn fc,.slice pA pn pc] 57)):=(vQ _ _).alloc (bQ _) _;exact⟨v,hS,hms.keep hb hms.lt,eF.alloc _,hown.keep aX mb cj hb,aN.then_below hb⟩
      have uK:w6.heap.size<=W.heap.size:=by obtain⟨v,_,_,_,_,aN⟩:=hI;exact aN.size
      have abZ:=jq fd;clear hI bp;gi_wp2;refine⟨λk=>S k\/k=W.heap.size,(RdStep.refl S W).alloc _,λk e=>e.imp id (λh=>by omega),λk e=>by rcases e with e | e;have:=fd k e;simp;omega;simp;omega,?_⟩;intro l W₂ aA;obtain⟨E,hE⟩:∃ E,W.heap.size=E:=⟨_,rfl⟩;obtain⟨v,hS,hms,eF,hown,aN⟩:=ML w6 Mb (Mb+1+1) q.data.toList ty (by omega) pre S _ W₂ no (aA.weaken (bQ _) (λk e=>.inl e));have iW:=aA.size;simp only[World.size_alloc] at iW;have gH:W₂.heap[E]?=some (.cells #[.string xz,.string xs,.int .i64 xty,.int .i64 xlf,.slice dA dn dc,.slice gA gn gc,.slice fA fn fc,.slice pA pn pc] 57 (0,0)):=by rw[<-hE];exact (aA.keep W.heap.size (by simp) (.inr (.inr rfl))).trans (heap_alloc_new _ _)
      have lz:=jq gH;rw[hE] at iW uK |-;have d1:W₂.cell? ⟨E,1,none⟩=some (.string xs):=(by simp[World.cell?,gH]);have d2:W₂.cell? ⟨E,2,none⟩=some (.int .i64 xty):=(by simp[World.cell?,gH]);have d3:W₂.cell? ⟨E,3,none⟩=some (.int .i64 xlf):=(by simp[World.cell?,gH]);have d4:W₂.cell? ⟨E,4,none⟩=some (.slice dA dn dc):=(by simp[World.cell?,gH]);have d5:W₂.cell? ⟨E,5,none⟩=some (.slice gA gn gc):=(by simp[World.cell?,gH]);have kY:∀ k,S k->k<W₂.heap.size:=λk e=>by have:=fd k e;omega
      have pX:∀ g,v.ownBlock=some g->w6.heap.size<=g/\g<W₂.heap.size:=λg hg=>hown.lt g hg;have EN:¬ S E:=λe=>by have:=fd _ e;omega
      obtain⟨us,BW⟩:∃ us,usP q.data.toList ty pre=us:=⟨_,rfl⟩;have od:=jq BW;have Vd:us.length<=2100:=by rw[<-BW];have:=Zp q.data.toList ty pre;omega
      rw[BW] at hms hown;obtain⟨m,hm⟩:∃ m,us.length=m:=⟨_,rfl⟩;rw[hm] at Vd;obtain⟨vA,vc,rfl⟩:=hown.formN hm;have HM:=jq hm;have qu:=jq (Ig.out _ I3.out);have oa:=jq (Ih.out _ I3.out);have AD:Hid (∀ y∈us,Np.Plain47 y):=jq (λy hy=>by
       rw[<-od.out] at hy;obtain⟨x,hx,rfl⟩:=Zq hy;exact mZ.out x hx)
      have nc:=jq hS;have Af:=jq hms;have gq:=jq eF;have gu:=jq hown;have un:=jq aN;have jP:=jq kY;have xi:=jq pX;have bq0:W₂.cell? ⟨X+1,0,none⟩=some (.string q):=(iQ (a:=⟨X+1,0,none⟩) (aN.keep (X+1) (by omega) (by omega))).trans ((cl Ha.out (by omega)).trans kp.out.1);have bq1:W₂.cell? ⟨X+1,1,none⟩=some (.int .i64 ty):=(iQ (a:=⟨X+1,1,none⟩) (aN.keep (X+1) (by omega) (by omega))).trans ((cl Ha.out (by omega)).trans kp.out.2);have pj:Hid (Boxed W₂ (Mb+1) 111 (.map (some Mb))):=jq (Jv QH.out aN (by omega));have Pk:Hid (SlR bn 3 W₂ W₂.heap.size (.slice dA dn dc) cc.signed.set.data):=jq ((qu.out.data.keep de (aN.below (n:=w4.heap.size) (by omega) (λk e=>by omega))).more eN (by omega));have Qo:Hid (SlR dj 6 W₂ W₂.heap.size (.slice gA gn gc) cc.signed.sigs):=jq ((qu.out.sigs.keep ep (aN.below (n:=w4.heap.size) (by omega) (λk e=>by omega))).more gp (by omega));have mi:Hid (fx W₂):=jq (pg.out.keepAt (aN.below (n:=Mb) (by omega) (λk e=>by omega)) P2.out);have D3:Hid (∀ k,(S k\/k=E)↔(((k=Mb\/k=Mb+1+1)\/(Value.slice vA m vc).ownBlock=some k)\/k=E)):=jq (λk=>or_congr (hS k) Iff.rfl);have DH:Hid (xs.data.toList=cc.signed.set.name):=jq qu.out.name;have di:Hid (xty=cc.signed.set.type):=jq qu.out.type;have Ae:Hid (xlf=cc.signed.set.life):=jq qu.out.life;have zc:E<W₂.heap.size:=by omega
      clear hm hms eF hown hS aN aA no pX fd kY BW gH hE;by_cases mB:xs.data.toList=q.data.toList
      case neg=>
       have hne:(xs.toList == q.toList)=false:=beq_eq_false_iff_ne.2 (λe=>mB (by rw[<-dQ,e,dQ]));have Ai:=jq mB;clear mB;have cJ:Hid (usP q.data.toList ty (pre ++ [(⟨xz,xs,xty,xlf,dA,dn,dc,gA,gn,gc,fA,fn,fc,pA,pn,pc⟩,cc)])=us):=jq (by rw[N7 (by rintro⟨h1,_⟩;exact Ai.out (DH.out.trans h1)),od.out]);gi_wp2_with fail;refine⟨λk=>(k=Mb\/k=Mb+1+1)\/(Value.slice vA m vc).ownBlock=some k,RdStep.refl _ _,λk e=>.inl ((D3.out k).2 (.inl e)),λk e=>jP.out k ((nc.out k).2 e),.slice vA m vc,λk=>Iff.rfl,by rw[cJ.out];exact Af.out,gq.out,by rw[cJ.out];exact gu.out,un.out⟩
      case pos=>
       obtain rfl:xs=q:=kL mB;have Ai:=jq mB;clear mB;by_cases vq:xty=ty
       case neg=>
        have hne:(xty != ty)=true:=by simpa [bne] using vq
        have vj:(xty == ty)=false:=by simpa using vq
        have fu:=jq vq;clear vq;have cJ:Hid (usP xs.data.toList ty (pre ++ [(⟨xz,xs,xty,xlf,dA,dn,dc,gA,gn,gc,fA,fn,fc,pA,pn,pc⟩,cc)])=us):=jq (by rw[N7 (by rintro⟨_,h1⟩;exact fu.out (di.out.trans h1)),od.out]);gi_wp2_with fail;refine⟨λk=>(k=Mb\/k=Mb+1+1)\/(Value.slice vA m vc).ownBlock=some k,RdStep.refl _ _,λk e=>.inl ((D3.out k).2 (.inl e)),λk e=>jP.out k ((nc.out k).2 e),.slice vA m vc,λk=>Iff.rfl,by rw[cJ.out];exact Af.out,gq.out,by rw[cJ.out];exact gu.out,un.out⟩
       case pos=>
        obtain rfl:xty=ty:=vq;have wV:Hid ((⟨⟨xs.data.toList,xty,xlf,cc.signed.set.data⟩,cc.signed.sigs⟩:Np.Signed)=cc.signed):=jq (by rw[DH.out,di.out,Ae.out]);have HAS:Hid (cc.signed.set.name=xs.data.toList/\cc.signed.set.type=xty):=jq ⟨DH.out.symm,di.out.symm⟩;gi_wp2_with fail;refine⟨trivial,rfl,?_⟩;refine (CallsIn.inRound l (callsIn_wide.2 (Va xs xty xlf _ _ cc.signed.set.data cc.signed.sigs W₂ mi.out (by rw[wV.out];exact oa.out.1) Pk.out Qo.out))).mono ?_;rw[wV.out];rintro e w7 ⟨rfl,hb⟩;have oI:=hb.size;replace d1:=(hb.cell (p:=⟨E,1,none⟩) zc).trans d1;replace d2:=(hb.cell (p:=⟨E,2,none⟩) zc).trans d2;replace d3:=(hb.cell (p:=⟨E,3,none⟩) zc).trans d3;replace d4:=(hb.cell (p:=⟨E,4,none⟩) zc).trans d4;replace d5:=(hb.cell (p:=⟨E,5,none⟩) zc).trans d5;have eO:=jq hb;have DE:=jq (Af.out.keep hb Af.out.lt);have Kp:=cG pj.out hb pj.out.lt;have Ar:=jq (cG gq.out hb gq.out.lt);have Iu:=jq (gu.out.keep aX mb cj hb);have bm:=Kp.cell;have bo:=Ar.out.cell;have zo:=Ar.out.frozen;obtain⟨key,oy⟩:∃ key,Np.dC cc.signed=key:=⟨_,rfl⟩;have mV:=jq oy;rw[oy];have gW:=Cy (P:=prog) w7 111 9 4 underlying111 underlying9 Mb _ DE.out key (.bool false) (by kernel_rfl);clear hb oy Kp bq0 bq1;by_cases hin:cc.signed∈us
        case pos=>
         have eI:(Np.lu us).lookup key=some (.bool true):=by rw[<-mV.out];exact Np.Mc hin
         rw[eI] at gW;simp only[Option.getD_some] at gW;have cJ:Hid (usP xs.data.toList xty (pre ++ [(⟨xz,xs,xty,xlf,dA,dn,dc,gA,gn,gc,fA,fn,fc,pA,pn,pc⟩,cc)])=us):=jq (by rw[Zs HAS.out (by rw[od.out];exact hin),od.out]);clear hin eI;gi_wp2_with fail;refine⟨λk=>(k=Mb\/k=Mb+1+1)\/(Value.slice vA m vc).ownBlock=some k,RdStep.of_below eO.out,λk e=>.inl ((D3.out k).2 (.inl e)),λk e=>by have:=jP.out k ((nc.out k).2 e);omega,.slice vA m vc,λk=>Iff.rfl,by rw[cJ.out];exact DE.out,Ar.out,by rw[cJ.out];exact Iu.out,un.out.then_below eO.out⟩
        case neg=>
         have eI:(Np.lu us).lookup key=none:=by rw[<-mV.out];exact Np.Ma oa.out.2 AD.out hin
         rw[eI] at gW;simp only[Option.getD_none] at gW;have cJ:Hid (usP xs.data.toList xty (pre ++ [(⟨xz,xs,xty,xlf,dA,dn,dc,gA,gn,gc,fA,fn,fc,pA,pn,pc⟩,cc)])=us ++ [cc.signed]):=jq (by rw[Zr HAS.out (by rw[od.out];exact hin),od.out]);obtain⟨wU,K9,yG,cF⟩:=Nu (P:=prog) w7 111 9 4 underlying111 underlying9 Mb _ DE.out key (.bool true) eI;have VE:wU.heap.size<=w7.heap.size:=Nat.le_of_eq cF.size;have aqX:w7.heap.size<=wU.heap.size:=Nat.le_of_eq cF.size.symm;have su:Hid (cA Mb (Np.lu (us ++ [cc.signed])) wU):=jq (by rw[Np.V7,mV.out];exact yG);have gv:Hid (RdStep (λk=>S k\/k=E) W₂ wU):=jq ⟨cF.os.trans eO.out.os,cF.tape.trans eO.out.tape,cF.output.trans eO.out.output,by omega,λk hk tn=>(cF.block k (λe=>tn (.inl ((nc.out k).2 (.inl (.inl e)))))).trans (eO.out.block k hk)⟩;have II:Hid (RdStep (λk=>k=Mb\/k=Mb+1+1) w6 wU):=jq ((un.out.then_below eO.out).trans (S':=λk=>k=Mb) ⟨cF.os,cF.tape,cF.output,by omega,λk _ tn=>cF.block k tn⟩ (λk e=>.inl (.inl e)));have t6:Hid (Boxed wU (Mb+1+1) 36 (.slice vA m vc)):=jq ((cF.block _ (by omega)).trans Ar.out);have PY:Hid (br bh 5 42 w6.heap.size (λk=>Mb<=k) wU (.slice vA m vc) us):=jq (Iu.out.leaves aX mb cj ⟨cF.os,cF.tape,cF.output,by omega,λi hi FA=>⟨FA,cF.block i (by omega)⟩⟩ (λg hg=>⟨cF.block g (by have:=(xi.out g hg).1;omega),by have:=(xi.out g hg).1;omega⟩));have ua:Hid (Below Mb W₂ wU):=jq ((eO.out.mono (by omega)).trans ⟨cF.os,cF.tape,cF.output,by omega,λk hk=>cF.block k (by omega)⟩);have xT:E≠Mb:=by omega
         clear hin eI yG zo bo;have bo:=t6.out.cell;have zo:=t6.out.frozen;replace d1:=(iQ (a:=⟨E,1,none⟩) (cF.block E xT)).trans d1;replace d2:=(iQ (a:=⟨E,2,none⟩) (cF.block E xT)).trans d2;replace d3:=(iQ (a:=⟨E,3,none⟩) (cF.block E xT)).trans d3;replace d4:=(iQ (a:=⟨E,4,none⟩) (cF.block E xT)).trans d4;replace d5:=(iQ (a:=⟨E,5,none⟩) (cF.block E xT)).trans d5;clear cF;obtain⟨w8,ke⟩:∃ w8,wU.alloc (.cells #[.string xs,.int .i64 xty,.int .i64 xlf,.slice dA dn dc,.slice gA gn gc] 42)=w8:=⟨_,rfl⟩;have ik:Below wU.heap.size wU w8:=by rw[<-ke];exact (vQ _ _).alloc (bQ _) _
         have vt:w8.heap.size<=wU.heap.size+1:=by rw[<-ke];simp
         have aqK:wU.heap.size<w8.heap.size:=by rw[<-ke];simp
         have Pd:Hid (ag w8 wU.heap.size 0 [.string xs,.int .i64 xty,.int .i64 xlf,.slice dA dn dc,.slice gA gn gc]):=jq (dV _ _ rfl ke.symm);have PX:=jq (PY.out.keep aX mb cj ik);have O3:Hid (Boxed w8 (Mb+1+1) 36 (.slice vA m vc)):=jq (cG t6.out ik (by omega));have iz:=jq ik;have Ql:Hid (bh (bd w8 λk=>Mb<=k) w8.heap.size [.string xs,.int .i64 xty,.int .i64 xlf,.slice dA dn dc,.slice gA gn gc] cc.signed):=jq (by
          have cL:Below w4.heap.size w6 w8:=((II.out.below (n:=w4.heap.size) (by omega) (λk e=>by omega)).trans (ik.mono (by omega)));rw[<-wV.out];exact⟨xs,_,_,rfl,qu.out.short,(qu.out.data.keep de cL).around de eN (λk e=>by omega) (by omega),(qu.out.sigs.keep ep cL).around ep gp (λk e=>by omega) (by omega),rfl⟩)
         obtain⟨si,FO,UZ,U0,U1⟩:=info_parts Tryz.infoSignedP;clear ik;gi_wp2_with (first
          | (gi_at_builtin;refine ZU rfl (by intro c h;cases h) (by rintro⟨_,_,h⟩;exact h) ?_;refine G1 (R:=bh) (M:=λk=>Mb<=k) w8 rfl _ _ 36 rfl w6.heap.size 42 si (.agg #[.string ⟨#[]⟩,.int .i64 0,.int .i64 0,.slice none 0 0,.slice none 0 0]) 80 underlying36 FO UZ U0 U1 rfl (by decide) (.slice vA m vc) us rfl PX.out (some ⟨wU.heap.size,0,none⟩) 1 [cc.signed] rfl (Gy rfl Ql.out Pd.out) Yv (by rw[HM.out];simp[maxLen];omega) (by rw[HM.out];simp;omega) (by omega) aX mb cj ?_;intro v9 w9 FE BB Kj;obtain⟨A9,c9,rfl⟩:=FE.formN (n:=m+1) (by rw[List.length_append,HM.out];rfl);have zd:=BB.size;have Bv:=((BB.block (Mb+1+1) (by omega) (λe=>by have:=(xi.out _ e.symm).1;omega)).trans O3.out);have O4:Hid (Boxed w9 (Mb+1+1) 36 (.slice vA m vc)):=jq Bv;have bo9:w9.cell? ⟨Mb+1+1,0,none⟩=some (.slice vA m vc):=Boxed.cell Bv;have zo9:w9.frozen? ⟨Mb+1+1,0,none⟩=false:=Boxed.frozen Bv;have H9:=jq (And.intro FE (And.intro BB Kj));clear FE BB Kj Bv;refine ZY ?_))
         have UY:∀ k,(Value.slice A9 (m+1) c9).ownBlock=some k->(Value.slice vA m vc).ownBlock=some k\/w8.heap.size=k:=λk e=>by
          rcases H9.out.2.2 with h | h
          ·exact .inl (h ▸ e)
          ·rw[h] at e;exact .inr (Option.some.inj e)
         have BG:∀ k,(Value.slice A9 (m+1) c9).ownBlock=some k->w6.heap.size<=k/\k<w9.heap.size:=λk e=>H9.out.1.lt k e;refine⟨λk=>(k=Mb\/k=Mb+1+1)\/(Value.slice A9 (m+1) c9).ownBlock=some k,((gv.out.then_below iz.out).grown H9.out.2.1 (λk e=>.inl (.inl ((nc.out k).2 (.inr e))))).setCell (.inl (.inl ((nc.out _).2 (.inl (.inr rfl))))) _,λk e=>?_,λk e=>?_,?_⟩
         ·rcases e with e | e
          ·exact .inl (.inl ((nc.out _).2 (.inl e)))
          ·rcases UY k e with e | e
           ·exact .inl (.inl ((nc.out _).2 (.inr e)))
           ·right;omega
         ·simp[World.setCell];rcases e with e | e
          ·omega
          ·exact (BG k e).2
         ·have SY:Hid (cA Mb (Np.lu (us ++ [cc.signed])) w9):=jq ((su.out.keep iz.out (by omega)).stays (H9.out.2.1.block Mb (by omega) (λe=>by have:=(xi.out _ e.symm).1;omega)));refine⟨_,λk=>Iff.rfl,by rw[cJ.out];exact SY.out.stays (wQ _ _ _ _ (by dsimp only;omega)),Boxed.set _ O4.out,?_,(((II.out.then_below iz.out).grown H9.out.2.1 (λk e=>.inr (xi.out k e).1)).setCell (.inl (.inr rfl)) _)⟩;rw[cJ.out];have h1:=H9.out.1.sameM (M':=λk=>Mb<=k) (λk=>⟨λe=>e.elim id (λe=>by have:=(BG k e).1;omega),.inl⟩);exact h1.leaves aX mb cj (Leaves'.setCell _ _ (by dsimp only;omega) _) (λg hg=>⟨wQ _ _ _ _ (by dsimp only;have:=(BG g hg).1;omega),by have:=(BG g hg).1;omega⟩)
end
end Go.Proofs.YtfnopgdcaanaiaaGreatDoor
