/- Parts of the proof. No condition. -/
import Derived.LaidLaws
import Derived.Stop.LaidErr
import Derived.Test.YtfnopgdcaanaiaaGreatDoorK30
import Derived.Test.YtfnopgdcaanaiaaGreatDoorK32
import Derived.Test.YtfnopgdcaanaiaaGreatDoorK33
import Derived.Test.YtfnopgdcaanaiaaGreatDoorK34
import Derived.Test.YtfnopgdcaanaiaaGreatDoorK36
set_option linter.all false
set_option maxRecDepth 100000
set_option maxHeartbeats 8000000
namespace Go.Proofs.YtfnopgdcaanaiaaGreatDoor
open Go.Proofs.Tryz
section
open Go.RowKit
noncomputable def Np.qp(h:Np.Hist)(z:List UInt8):Int×List Np.Held:=if Np.yes (Np.uU h z) then (if Np.yes (Np.xT h z) then (0,Np.pub h.copies z) else (4,[])) else (1,[])
noncomputable def Np.xe(h:Np.Hist):Int×List (List UInt8):=if Np.yes (Np.VHist h) then (0,Np.apexes h.copies) else (1,[])
theorem Np.akY{h:Np.Hist}{z:List UInt8}(k:¬ Np.uU h z):Np.qp h z=(1,[]):=by unfold Np.qp;rw[Np.aN k];rfl
theorem Np.alQ{h:Np.Hist}{z:List UInt8}(k:Np.uU h z)(k2:¬ Np.xT h z):Np.qp h z=(4,[]):=by unfold Np.qp;rw[Np.bO k,Np.aN k2];rfl
theorem Np.Qu{h:Np.Hist}{z:List UInt8}(k:Np.uU h z)(k2:Np.xT h z):Np.qp h z=(0,Np.pub h.copies z):=by unfold Np.qp;rw[Np.bO k,Np.bO k2];rfl
theorem Np.R0{h:Np.Hist}(k:Np.VHist h):Np.xe h=(0,Np.apexes h.copies):=by unfold Np.xe;rw[Np.bO k];rfl
theorem Np.RZ{h:Np.Hist}(k:¬ Np.VHist h):Np.xe h=(1,[]):=by unfold Np.xe;rw[Np.aN k];rfl
structure jf(w:World)(e:List Value)(h:Np.Hist):Prop where
 rh:fo w w.heap.size e h
 use:Np.Use h
 sums:Np.jS h
theorem jf.keep{w w':World}{e:List Value}{h:Np.Hist}(k:jf w e h)(hb:Below w.heap.size w w'):jf w' e h:=
 ⟨lF _ _ _ _ _ (lE _ _ _ _ _ k.rh hb) hb.size,k.use,k.sums⟩
structure iq(n:Nat)(w:World):Prop where
 rules:iP w n
 pow:fU w
 lt:1<n
theorem iq.keep{n:Nat}{w w':World}(k:iq n w)(hb:Below n w w'):iq n w':=⟨k.rules.keep hb,k.pow.keepAt hb k.lt,k.lt⟩
theorem iq.more{n m:Nat}{w:World}(k:iq n w)(h:n<=m):iq m w:=⟨k.rules.more h,k.pow,lQ k.lt h⟩
theorem iq.next{w w':World}(k:iq w.heap.size w)(hb:Below w.heap.size w w'):iq w'.heap.size w':=(k.keep hb).more hb.size
theorem UQ{h:Np.Hist}(v:Np.VHist h):∀ x∈Np.apexes h.copies,x.length<=140737488355328:=λx hx=>by
 obtain⟨c,hc,rfl⟩:=Np.yN.1 hx;have h1:=(Np.xg (v.each c hc).zone).1
 have:=(Np.yO h1).1
 omega
theorem Mk(l:List Np.Copy):(Np.apexes l).length<=l.length:=by
 unfold Np.apexes;rw[(Np.Fe _).length_eq]
 have:=Np.ub (l.map (·.zone.apex))
 rwa [List.length_map] at this
theorem aK.around{base n:Nat}{w:World}{v:Value}{ps:List Np.Span}(h:aK base w v ps)(hn:n<=base)(hl:ps.length<=140737488355328):gq cV 2 0 n w v ps:=λM hM=>by
 have h1:aK base (bi w M) v ps:=gp h (λg hg=>kS (λe=>by have:=hM g e;have:=(World.ownsRow.lt h g hg).1;omega));have h2:=h1.slr hl;rwa [gJ] at h2
theorem ck.around{base n:Nat}{w:World}{v:Value}{ps:List (List UInt8)}(h:ck base w v ps)(hn:n<=base)(hl:ps.length<=140737488355328)(hs:∀ x∈ps,x.length<=140737488355328):gq RTx 1 0 n w v ps:=λM hM=>by
 have h1:ck base (bi w M) v ps:=gp h (λg hg=>kS (λe=>by have:=hM g e;have:=(World.ownsRow.lt h g hg).1;omega));have h2:=h1.slr hl hs;rwa [gJ] at h2
structure WAt(n:Nat)(w:World)(e:List Value)(x:Np.WorldP)(A1:Option Addr)(n1 c1:Nat)(A2:Option Addr)(n2 c2:Nat)(s:ByteArray)(ty lf:Int)(A3:Option Addr)(n3 c3:Nat)(A4:Option Addr)(n4 c4:Nat):Prop where
 val:e = [.slice A1 n1 c1,.slice A2 n2 c2,.string s,.int .i64 ty,.int .i64 lf,.slice A3 n3 c3,.slice A4 n4 c4]
 all:uV w w.heap.size e x
 zones:gq lT 3 0 n w (.slice A2 n2 c2) x.zones
 len:x.zones.length=n2
theorem aHX{n:Nat}{w:World}{e:List Value}{x:Np.WorldP}(h:CH uV 0 n w e x):∃ A1 n1 c1 A2 n2 c2 s ty lf A3 n3 c3 A4 n4 c4,WAt n w e x A1 n1 c1 A2 n2 c2 s ty lf A3 n3 c3 A4 n4 c4:=by
 have h0:=h.all awX;have h0':=h0;obtain⟨hv,zv,s,dv,cE,rfl,_,_,h1,h2,h3,h4⟩:=h0';obtain⟨A1,c1,rfl,_⟩:=al h1;obtain⟨A2,c2,rfl,_⟩:=al h2;obtain⟨A3,c3,rfl,_⟩:=al h3;obtain⟨A4,c4,rfl,_⟩:=al h4;refine⟨A1,_,c1,A2,_,c2,s,_,_,A3,_,c3,A4,_,c4,rfl,h0,λM hM=>?_,rfl⟩;obtain⟨go,zv2,s2,dv2,aUK,he,_,_,_,hz,_,_⟩:=h M hM;simp only[List.cons.injEq] at he;rw[he.2.1];exact hz
theorem WAt.keep{n:Nat}{w w':World}{e:List Value}{x:Np.WorldP}{A1:Option Addr}{n1 c1:Nat}{A2:Option Addr}{n2 c2:Nat}{s:ByteArray}{ty lf:Int}{A3:Option Addr}{n3 c3:Nat}{A4:Option Addr}{n4 c4:Nat}(h:WAt n w e x A1 n1 c1 A2 n2 c2 s ty lf A3 n3 c3 A4 n4 c4)(hb:Below w.heap.size w w'):WAt n w' e x A1 n1 c1 A2 n2 c2 s ty lf A3 n3 c3 A4 n4 c4:=
 ⟨h.val,awK _ _ _ _ _ (awJ _ _ _ _ _ h.all hb) hb.size,h.zones.keep mq mr hb,h.len⟩
theorem cAt(e:List Value)(h:Np.Hist)(t:Int)(w:World)(hV:iq w.heap.size w)(k:jf w e h) :
 Calls prog 25 #[.agg e.toArray,.int .i64 t] w λe w'=>∃ A1 n1 c1 A2 n2 c2 s ty lf A3 n3 c3 A4 n4 c4,e = .returned (.tuple #[.agg #[.slice A1 n1 c1,.slice A2 n2 c2,.string s,.int .i64 ty,.int .i64 lf,.slice A3 n3 c3,.slice A4 n4 c4],.int .i64 (Np.atE h t)])/\WAt w.heap.size w' [.slice A1 n1 c1,.slice A2 n2 c2,.string s,.int .i64 ty,.int .i64 lf,.slice A3 n3 c3,.slice A4 n4 c4] (Np.atW h t) A1 n1 c1 A2 n2 c2 s ty lf A3 n3 c3 A4 n4 c4/\Below w.heap.size w w':=
 (UX e h k.use.fewH k.use.big k.use.sets t w hV.rules k.rh).mono λe w' ⟨e',h1,h2,h3⟩=>by
   obtain⟨A1,n1,c1,A2,n2,c2,s,ty,lf,A3,n3,c3,A4,n4,c4,h4⟩:=aHX h2;obtain rfl:=h4.val;exact⟨A1,n1,c1,A2,n2,c2,s,ty,lf,A3,n3,c3,A4,n4,c4,h1,h4,h3⟩
theorem cPub(e:List Value)(h:Np.Hist)(z:ByteArray)(hz:z.size<=140737488355328)(w:World)(hV:iq w.heap.size w)(k:jf w e h) :
 Calls prog 61 #[.agg e.toArray,.string z] w λe w'=>∃ A n c,e = .returned (.tuple #[.slice A n c,.int .i64 (Np.qp h z.data.toList).1])/\(Np.qp h z.data.toList).2.length=n/\gq iO 8 0 w.heap.size w' (.slice A n c) (Np.qp h z.data.toList).2/\Below w.heap.size w w':=
 (alY e h k.use.fewH k.sums z hz (k.use.pairs _) w hV.rules hV.pow k.rh).mono λe w' ⟨h1,h2⟩=>by
   rcases h1 with ⟨n1,rfl⟩ | ⟨n1,⟨n2,rfl⟩ | ⟨n2,v',rfl,h3⟩⟩
   ·rw[Np.akY n1];exact⟨_,_,_,rfl,rfl,gq.nil _ _ _ _,h2⟩
   ·rw[Np.alQ n1 n2];exact⟨_,_,_,rfl,rfl,gq.nil _ _ _ _,h2⟩
   ·rw[Np.Qu n1 n2];obtain⟨A,c,rfl⟩:=h3.form;exact⟨_,_,_,rfl,rfl,h3,h2⟩
theorem cZon(e:List Value)(h:Np.Hist)(w:World)(hV:iq w.heap.size w)(k:jf w e h) :
 Calls prog 60 #[.agg e.toArray] w λe w'=>∃ A n c,e = .returned (.tuple #[.slice A n c,.int .i64 (Np.xe h).1])/\(Np.xe h).2.length=n/\gq RTx 1 0 w.heap.size w' (.slice A n c) (Np.xe h).2/\Below w.heap.size w w':=
 (aMK e h k.use.fewH w hV.rules k.rh).mono λe w' ⟨h1,h2⟩=>by
   rcases h1 with ⟨n1,v',rfl,h3⟩ | ⟨n1,rfl⟩
   ·rw[Np.R0 n1];have h4:=h3.around (bQ _) (by have h4:=Mk h.copies;have h5:=k.use.copies;omega) (UQ n1);obtain⟨A,c,rfl⟩:=h4.form;exact⟨_,_,_,rfl,rfl,h4,h2⟩
   ·rw[Np.RZ n1];exact⟨_,_,_,rfl,rfl,gq.nil _ _ _ _,h2⟩
theorem U6(e:List Value)(h:Np.Hist)(w:World)(hV:iq w.heap.size w)(k:jf w e h) :
 Calls prog 56 #[.agg e.toArray] w λe w'=>e = .returned (.bool (Np.yes (Np.VHist h)))/\Below w.heap.size w w':=
 IP e h k.use.fewH w hV.rules k.rh
theorem yX{w:World}{B:Nat}{e:List Value}{h:Np.Hist}(k:fo w B e h):∃ A1 n1 c1 A2 n2 c2 s ty lf A3 n3 c3 A4 n4 c4 dr st,e = [.slice A1 n1 c1,.slice A2 n2 c2,.string s,.int .i64 ty,.int .i64 lf,.slice A3 n3 c3,.slice A4 n4 c4,.int .i64 dr,.int .i64 st]/\h.hosts.length=n1/\h.copies.length=n2/\h.stop=st/\SlR gz 3 w B (.slice A1 n1 c1) h.hosts/\SlR jR 5 w B (.slice A2 n2 c2) h.copies:=by
 obtain⟨hv,cv,s,dv,cE,rfl,_,_,h3,h4,h5,h6⟩:=k;obtain⟨A1,c1,rfl,_⟩:=al h3;obtain⟨A2,c2,rfl,_⟩:=al h4;obtain⟨A3,c3,rfl,_⟩:=al h5;obtain⟨A4,c4,rfl,_⟩:=al h6;exact⟨A1,_,c1,A2,_,c2,s,_,_,A3,_,c3,A4,_,c4,_,_,rfl,rfl,rfl,rfl,h3,h4⟩
theorem Np.Pd{life:Int}{sg:List Np.Sig}(h:Np.mD life sg):Np.Use (Np.hxH life sg):=⟨by simp[Np.hxH,Np.hxC],by simp[Np.hxH],by simp[Np.hxH],by simp[Np.hxH],λc hc=>by
 simp only[Np.hxH,Np.hxC,List.mem_cons,Qh,or_false] at hc;subst hc;refine⟨by simp[Np.hxZ],λx hx=>?_⟩;simp only[Np.hxZ,List.mem_cons,Qh,or_false] at hx;rcases hx with rfl | rfl | rfl
 ·simp[Np.hxN]
 ·simp[Np.hxS]
 ·rcases h with ⟨rfl,rfl⟩ | ⟨rfl,rfl⟩ | ⟨rfl,rfl⟩ <;> simp[Np.hxW]⟩
theorem Np.Pc{life:Int}{sg:List Np.Sig}(h:Np.mD life sg):Np.jS (Np.hxH life sg):=λc hc x hx g hg=>by
 simp only[Np.hxH,Np.hxC,List.mem_cons,Qh,or_false] at hc;subst hc;simp only[Np.hxZ,List.mem_cons,Qh,or_false] at hx;rcases hx with rfl | rfl | rfl
 ·simp[Np.hxN] at hg
 ·simp[Np.hxS] at hg
 ·rcases h with ⟨rfl,rfl⟩ | ⟨rfl,rfl⟩ | ⟨rfl,rfl⟩
  ·simp[Np.hxW] at hg
  ·simp[Np.hxW] at hg;subst hg;decide
  ·simp[Np.hxW] at hg
theorem aq{w:World}{b o:Nat}{l:List Value}(h:ai w b o l)(hb:b<w.heap.size)(ob:Obj):ai (w.alloc ob) b o l:=h.move (Below.heap_alloc _ _ _ hb)
theorem Hs(life:Int)(hk:Np.mD life [])(w:World):Calls prog 54 #[.int .i64 life,.int .i64 0] w λe w'=>∃ e',e = .returned (.agg e'.toArray)/\jf w' e' (Np.hxH life [])/\Below w.heap.size w w':=by
 obtain⟨X,hX⟩:∃ X,w.heap.size=X:=⟨_,rfl⟩;rw[hX];have HK:=jq hk;clear hk;go_enter func54,ntmps54;go_wp2_with fail;obtain⟨v0,tT⟩:∃ v,w=v:=⟨_,rfl⟩;obtain⟨v1,rR⟩:∃ v,v0.alloc (.cells #[.slice (some ⟨X+1+1+1+1+1+1+1+1+1,0,none⟩) 1 1,.slice (some ⟨X+1+1+1+1+1+1+1+1+1+1,0,none⟩) 1 1,.string ⟨#[46]⟩,.int .i64 6,.int .i64 0,.slice (some ⟨X+1+1+1+1+1+1+1,0,none⟩) 1 1,.slice (some ⟨X+1+1+1+1+1+1+1+1+1+1+1,0,none⟩) 1 1,.int .i64 2,.int .i64 50] 29)=v:=⟨_,rfl⟩;obtain⟨v2,go⟩:∃ v,v1.alloc (.cells #[.string ⟨#[]⟩,.int .i64 7,.int .i64 0] 128)=v:=⟨_,rfl⟩;obtain⟨v3,m9⟩:∃ v,v2.alloc (.cells #[.string ⟨#[119,46,120]⟩,.int .i64 1,.int .i64 life,.slice (some ⟨X+1,0,none⟩) 1 1,.slice none 0 0] 42)=v:=⟨_,rfl⟩;obtain⟨v4,lB⟩:∃ v,v3.alloc (.cells #[.string ⟨#[97]⟩,.int .i64 0,.int .i64 0] 128)=v:=⟨_,rfl⟩;obtain⟨v5,ki⟩:∃ v,v4.alloc (.cells #[.string ⟨#[]⟩,.int .i64 1,.int .i64 0] 128)=v:=⟨_,rfl⟩;obtain⟨v6,iW⟩:∃ v,v5.alloc (.cells #[.string ⟨#[120]⟩,.int .i64 2,.int .i64 0,.slice (some ⟨X+1+1+1,0,none⟩) 1 1,.slice none 0 0,.string ⟨#[120]⟩,.int .i64 4,.int .i64 0,.slice (some ⟨X+1+1+1+1,0,none⟩) 1 1,.slice none 0 0,.string ⟨#[119,46,120]⟩,.int .i64 1,.int .i64 life,.slice (some ⟨X+1,0,none⟩) 1 1,.slice none 0 0] 42)=v:=⟨_,rfl⟩;obtain⟨v7,ii⟩:∃ v,v6.alloc (.cells #[.string ⟨#[120]⟩,.slice (some ⟨X+1+1+1+1+1,0,none⟩) 3 3] 44)=v:=⟨_,rfl⟩;obtain⟨v8,gH⟩:∃ v,v7.alloc (.cells #[.string ⟨#[]⟩,.int .i64 1,.int .i64 1] 128)=v:=⟨_,rfl⟩;obtain⟨v9,fZ⟩:∃ v,v8.alloc (.cells #[.string ⟨#[46]⟩,.int .i64 6,.int .i64 0,.slice (some ⟨X+1+1+1+1+1+1+1,0,none⟩) 1 1] 26)=v:=⟨_,rfl⟩;obtain⟨v10,fy⟩:∃ v,v9.alloc (.cells #[.string ⟨#[97]⟩,.int .i64 1,.int .i64 0] 101)=v:=⟨_,rfl⟩;obtain⟨v11,eT⟩:∃ v,v10.alloc (.cells #[.int .i64 0,.int .i64 0,.int .i64 20,.string ⟨#[120]⟩,.slice (some ⟨X+1+1+1+1+1,0,none⟩) 3 3] 46)=v:=⟨_,rfl⟩;obtain⟨v12,ef⟩:∃ v,v11.alloc (.cells #[.int .i64 1] 3)=v:=⟨_,rfl⟩;rw[tT,rR,go,m9,lB,ki,iW,ii,gH,fZ,fy,eT,ef];have z0:v0.heap.size=X:=by rw[<-tT];exact hX
 have z1:v1.heap.size=X+1:=by rw[<-rR,World.size_alloc,z0]
 have z2:v2.heap.size=X+1+1:=by rw[<-go,World.size_alloc,z1]
 have z3:v3.heap.size=X+1+1+1:=by rw[<-m9,World.size_alloc,z2]
 have z4:v4.heap.size=X+1+1+1+1:=by rw[<-lB,World.size_alloc,z3]
 have z5:v5.heap.size=X+1+1+1+1+1:=by rw[<-ki,World.size_alloc,z4]
 have z6:v6.heap.size=X+1+1+1+1+1+1:=by rw[<-iW,World.size_alloc,z5]
 have z7:v7.heap.size=X+1+1+1+1+1+1+1:=by rw[<-ii,World.size_alloc,z6]
 have z8:v8.heap.size=X+1+1+1+1+1+1+1+1:=by rw[<-gH,World.size_alloc,z7]
 have z9:v9.heap.size=X+1+1+1+1+1+1+1+1+1:=by rw[<-fZ,World.size_alloc,z8]
 have z10:v10.heap.size=X+1+1+1+1+1+1+1+1+1+1:=by rw[<-fy,World.size_alloc,z9]
 have z11:v11.heap.size=X+1+1+1+1+1+1+1+1+1+1+1:=by rw[<-eT,World.size_alloc,z10]
 have z12:v12.heap.size=X+1+1+1+1+1+1+1+1+1+1+1+1:=by rw[<-ef,World.size_alloc,z11]
 have c0:ai v1 (X) 0 [.slice (some ⟨X+1+1+1+1+1+1+1+1+1,0,none⟩) 1 1,.slice (some ⟨X+1+1+1+1+1+1+1+1+1+1,0,none⟩) 1 1,.string ⟨#[46]⟩,.int .i64 6,.int .i64 0,.slice (some ⟨X+1+1+1+1+1+1+1,0,none⟩) 1 1,.slice (some ⟨X+1+1+1+1+1+1+1+1+1+1+1,0,none⟩) 1 1,.int .i64 2,.int .i64 50]:=eN _ _ z0 rR.symm;have c1:ai v2 (X+1) 0 [.string ⟨#[]⟩,.int .i64 7,.int .i64 0]:=eN _ _ z1 go.symm;replace c0:ai v2 (X) 0 [.slice (some ⟨X+1+1+1+1+1+1+1+1+1,0,none⟩) 1 1,.slice (some ⟨X+1+1+1+1+1+1+1+1+1+1,0,none⟩) 1 1,.string ⟨#[46]⟩,.int .i64 6,.int .i64 0,.slice (some ⟨X+1+1+1+1+1+1+1,0,none⟩) 1 1,.slice (some ⟨X+1+1+1+1+1+1+1+1+1+1+1,0,none⟩) 1 1,.int .i64 2,.int .i64 50]:=by rw[<-go];exact aq c0 (by omega) _
 have c2:ai v3 (X+1+1) 0 [.string ⟨#[119,46,120]⟩,.int .i64 1,.int .i64 life,.slice (some ⟨X+1,0,none⟩) 1 1,.slice none 0 0]:=eN _ _ z2 m9.symm;replace c0:ai v3 (X) 0 [.slice (some ⟨X+1+1+1+1+1+1+1+1+1,0,none⟩) 1 1,.slice (some ⟨X+1+1+1+1+1+1+1+1+1+1,0,none⟩) 1 1,.string ⟨#[46]⟩,.int .i64 6,.int .i64 0,.slice (some ⟨X+1+1+1+1+1+1+1,0,none⟩) 1 1,.slice (some ⟨X+1+1+1+1+1+1+1+1+1+1+1,0,none⟩) 1 1,.int .i64 2,.int .i64 50]:=by rw[<-m9];exact aq c0 (by omega) _
 replace c1:ai v3 (X+1) 0 [.string ⟨#[]⟩,.int .i64 7,.int .i64 0]:=by rw[<-m9];exact aq c1 (by omega) _
 have c3:ai v4 (X+1+1+1) 0 [.string ⟨#[97]⟩,.int .i64 0,.int .i64 0]:=eN _ _ z3 lB.symm;replace c0:ai v4 (X) 0 [.slice (some ⟨X+1+1+1+1+1+1+1+1+1,0,none⟩) 1 1,.slice (some ⟨X+1+1+1+1+1+1+1+1+1+1,0,none⟩) 1 1,.string ⟨#[46]⟩,.int .i64 6,.int .i64 0,.slice (some ⟨X+1+1+1+1+1+1+1,0,none⟩) 1 1,.slice (some ⟨X+1+1+1+1+1+1+1+1+1+1+1,0,none⟩) 1 1,.int .i64 2,.int .i64 50]:=by rw[<-lB];exact aq c0 (by omega) _
 replace c1:ai v4 (X+1) 0 [.string ⟨#[]⟩,.int .i64 7,.int .i64 0]:=by rw[<-lB];exact aq c1 (by omega) _
 replace c2:ai v4 (X+1+1) 0 [.string ⟨#[119,46,120]⟩,.int .i64 1,.int .i64 life,.slice (some ⟨X+1,0,none⟩) 1 1,.slice none 0 0]:=by rw[<-lB];exact aq c2 (by omega) _
 have c4:ai v5 (X+1+1+1+1) 0 [.string ⟨#[]⟩,.int .i64 1,.int .i64 0]:=eN _ _ z4 ki.symm;replace c0:ai v5 (X) 0 [.slice (some ⟨X+1+1+1+1+1+1+1+1+1,0,none⟩) 1 1,.slice (some ⟨X+1+1+1+1+1+1+1+1+1+1,0,none⟩) 1 1,.string ⟨#[46]⟩,.int .i64 6,.int .i64 0,.slice (some ⟨X+1+1+1+1+1+1+1,0,none⟩) 1 1,.slice (some ⟨X+1+1+1+1+1+1+1+1+1+1+1,0,none⟩) 1 1,.int .i64 2,.int .i64 50]:=by rw[<-ki];exact aq c0 (by omega) _
 replace c1:ai v5 (X+1) 0 [.string ⟨#[]⟩,.int .i64 7,.int .i64 0]:=by rw[<-ki];exact aq c1 (by omega) _
 replace c2:ai v5 (X+1+1) 0 [.string ⟨#[119,46,120]⟩,.int .i64 1,.int .i64 life,.slice (some ⟨X+1,0,none⟩) 1 1,.slice none 0 0]:=by rw[<-ki];exact aq c2 (by omega) _
 replace c3:ai v5 (X+1+1+1) 0 [.string ⟨#[97]⟩,.int .i64 0,.int .i64 0]:=by rw[<-ki];exact aq c3 (by omega) _
 have c5:ai v6 (X+1+1+1+1+1) 0 [.string ⟨#[120]⟩,.int .i64 2,.int .i64 0,.slice (some ⟨X+1+1+1,0,none⟩) 1 1,.slice none 0 0,.string ⟨#[120]⟩,.int .i64 4,.int .i64 0,.slice (some ⟨X+1+1+1+1,0,none⟩) 1 1,.slice none 0 0,.string ⟨#[119,46,120]⟩,.int .i64 1,.int .i64 life,.slice (some ⟨X+1,0,none⟩) 1 1,.slice none 0 0]:=eN _ _ z5 iW.symm;replace c0:ai v6 (X) 0 [.slice (some ⟨X+1+1+1+1+1+1+1+1+1,0,none⟩) 1 1,.slice (some ⟨X+1+1+1+1+1+1+1+1+1+1,0,none⟩) 1 1,.string ⟨#[46]⟩,.int .i64 6,.int .i64 0,.slice (some ⟨X+1+1+1+1+1+1+1,0,none⟩) 1 1,.slice (some ⟨X+1+1+1+1+1+1+1+1+1+1+1,0,none⟩) 1 1,.int .i64 2,.int .i64 50]:=by rw[<-iW];exact aq c0 (by omega) _
 replace c1:ai v6 (X+1) 0 [.string ⟨#[]⟩,.int .i64 7,.int .i64 0]:=by rw[<-iW];exact aq c1 (by omega) _
 replace c2:ai v6 (X+1+1) 0 [.string ⟨#[119,46,120]⟩,.int .i64 1,.int .i64 life,.slice (some ⟨X+1,0,none⟩) 1 1,.slice none 0 0]:=by rw[<-iW];exact aq c2 (by omega) _
 replace c3:ai v6 (X+1+1+1) 0 [.string ⟨#[97]⟩,.int .i64 0,.int .i64 0]:=by rw[<-iW];exact aq c3 (by omega) _
 replace c4:ai v6 (X+1+1+1+1) 0 [.string ⟨#[]⟩,.int .i64 1,.int .i64 0]:=by rw[<-iW];exact aq c4 (by omega) _
 have c6:ai v7 (X+1+1+1+1+1+1) 0 [.string ⟨#[120]⟩,.slice (some ⟨X+1+1+1+1+1,0,none⟩) 3 3]:=eN _ _ z6 ii.symm;replace c0:ai v7 (X) 0 [.slice (some ⟨X+1+1+1+1+1+1+1+1+1,0,none⟩) 1 1,.slice (some ⟨X+1+1+1+1+1+1+1+1+1+1,0,none⟩) 1 1,.string ⟨#[46]⟩,.int .i64 6,.int .i64 0,.slice (some ⟨X+1+1+1+1+1+1+1,0,none⟩) 1 1,.slice (some ⟨X+1+1+1+1+1+1+1+1+1+1+1,0,none⟩) 1 1,.int .i64 2,.int .i64 50]:=by rw[<-ii];exact aq c0 (by omega) _
 replace c1:ai v7 (X+1) 0 [.string ⟨#[]⟩,.int .i64 7,.int .i64 0]:=by rw[<-ii];exact aq c1 (by omega) _
 replace c2:ai v7 (X+1+1) 0 [.string ⟨#[119,46,120]⟩,.int .i64 1,.int .i64 life,.slice (some ⟨X+1,0,none⟩) 1 1,.slice none 0 0]:=by rw[<-ii];exact aq c2 (by omega) _
 replace c3:ai v7 (X+1+1+1) 0 [.string ⟨#[97]⟩,.int .i64 0,.int .i64 0]:=by rw[<-ii];exact aq c3 (by omega) _
 replace c4:ai v7 (X+1+1+1+1) 0 [.string ⟨#[]⟩,.int .i64 1,.int .i64 0]:=by rw[<-ii];exact aq c4 (by omega) _
 replace c5:ai v7 (X+1+1+1+1+1) 0 [.string ⟨#[120]⟩,.int .i64 2,.int .i64 0,.slice (some ⟨X+1+1+1,0,none⟩) 1 1,.slice none 0 0,.string ⟨#[120]⟩,.int .i64 4,.int .i64 0,.slice (some ⟨X+1+1+1+1,0,none⟩) 1 1,.slice none 0 0,.string ⟨#[119,46,120]⟩,.int .i64 1,.int .i64 life,.slice (some ⟨X+1,0,none⟩) 1 1,.slice none 0 0]:=by rw[<-ii];exact aq c5 (by omega) _
 have c7:ai v8 (X+1+1+1+1+1+1+1) 0 [.string ⟨#[]⟩,.int .i64 1,.int .i64 1]:=eN _ _ z7 gH.symm;replace c0:ai v8 (X) 0 [.slice (some ⟨X+1+1+1+1+1+1+1+1+1,0,none⟩) 1 1,.slice (some ⟨X+1+1+1+1+1+1+1+1+1+1,0,none⟩) 1 1,.string ⟨#[46]⟩,.int .i64 6,.int .i64 0,.slice (some ⟨X+1+1+1+1+1+1+1,0,none⟩) 1 1,.slice (some ⟨X+1+1+1+1+1+1+1+1+1+1+1,0,none⟩) 1 1,.int .i64 2,.int .i64 50]:=by rw[<-gH];exact aq c0 (by omega) _
 replace c1:ai v8 (X+1) 0 [.string ⟨#[]⟩,.int .i64 7,.int .i64 0]:=by rw[<-gH];exact aq c1 (by omega) _
 replace c2:ai v8 (X+1+1) 0 [.string ⟨#[119,46,120]⟩,.int .i64 1,.int .i64 life,.slice (some ⟨X+1,0,none⟩) 1 1,.slice none 0 0]:=by rw[<-gH];exact aq c2 (by omega) _
 replace c3:ai v8 (X+1+1+1) 0 [.string ⟨#[97]⟩,.int .i64 0,.int .i64 0]:=by rw[<-gH];exact aq c3 (by omega) _
 replace c4:ai v8 (X+1+1+1+1) 0 [.string ⟨#[]⟩,.int .i64 1,.int .i64 0]:=by rw[<-gH];exact aq c4 (by omega) _
 replace c5:ai v8 (X+1+1+1+1+1) 0 [.string ⟨#[120]⟩,.int .i64 2,.int .i64 0,.slice (some ⟨X+1+1+1,0,none⟩) 1 1,.slice none 0 0,.string ⟨#[120]⟩,.int .i64 4,.int .i64 0,.slice (some ⟨X+1+1+1+1,0,none⟩) 1 1,.slice none 0 0,.string ⟨#[119,46,120]⟩,.int .i64 1,.int .i64 life,.slice (some ⟨X+1,0,none⟩) 1 1,.slice none 0 0]:=by rw[<-gH];exact aq c5 (by omega) _
 replace c6:ai v8 (X+1+1+1+1+1+1) 0 [.string ⟨#[120]⟩,.slice (some ⟨X+1+1+1+1+1,0,none⟩) 3 3]:=by rw[<-gH];exact aq c6 (by omega) _
 have c8:ai v9 (X+1+1+1+1+1+1+1+1) 0 [.string ⟨#[46]⟩,.int .i64 6,.int .i64 0,.slice (some ⟨X+1+1+1+1+1+1+1,0,none⟩) 1 1]:=eN _ _ z8 fZ.symm;replace c0:ai v9 (X) 0 [.slice (some ⟨X+1+1+1+1+1+1+1+1+1,0,none⟩) 1 1,.slice (some ⟨X+1+1+1+1+1+1+1+1+1+1,0,none⟩) 1 1,.string ⟨#[46]⟩,.int .i64 6,.int .i64 0,.slice (some ⟨X+1+1+1+1+1+1+1,0,none⟩) 1 1,.slice (some ⟨X+1+1+1+1+1+1+1+1+1+1+1,0,none⟩) 1 1,.int .i64 2,.int .i64 50]:=by rw[<-fZ];exact aq c0 (by omega) _
 replace c1:ai v9 (X+1) 0 [.string ⟨#[]⟩,.int .i64 7,.int .i64 0]:=by rw[<-fZ];exact aq c1 (by omega) _
 replace c2:ai v9 (X+1+1) 0 [.string ⟨#[119,46,120]⟩,.int .i64 1,.int .i64 life,.slice (some ⟨X+1,0,none⟩) 1 1,.slice none 0 0]:=by rw[<-fZ];exact aq c2 (by omega) _
 replace c3:ai v9 (X+1+1+1) 0 [.string ⟨#[97]⟩,.int .i64 0,.int .i64 0]:=by rw[<-fZ];exact aq c3 (by omega) _
 replace c4:ai v9 (X+1+1+1+1) 0 [.string ⟨#[]⟩,.int .i64 1,.int .i64 0]:=by rw[<-fZ];exact aq c4 (by omega) _
 replace c5:ai v9 (X+1+1+1+1+1) 0 [.string ⟨#[120]⟩,.int .i64 2,.int .i64 0,.slice (some ⟨X+1+1+1,0,none⟩) 1 1,.slice none 0 0,.string ⟨#[120]⟩,.int .i64 4,.int .i64 0,.slice (some ⟨X+1+1+1+1,0,none⟩) 1 1,.slice none 0 0,.string ⟨#[119,46,120]⟩,.int .i64 1,.int .i64 life,.slice (some ⟨X+1,0,none⟩) 1 1,.slice none 0 0]:=by rw[<-fZ];exact aq c5 (by omega) _
 replace c6:ai v9 (X+1+1+1+1+1+1) 0 [.string ⟨#[120]⟩,.slice (some ⟨X+1+1+1+1+1,0,none⟩) 3 3]:=by rw[<-fZ];exact aq c6 (by omega) _
 replace c7:ai v9 (X+1+1+1+1+1+1+1) 0 [.string ⟨#[]⟩,.int .i64 1,.int .i64 1]:=by rw[<-fZ];exact aq c7 (by omega) _
 have c9:ai v10 (X+1+1+1+1+1+1+1+1+1) 0 [.string ⟨#[97]⟩,.int .i64 1,.int .i64 0]:=eN _ _ z9 fy.symm;replace c0:ai v10 (X) 0 [.slice (some ⟨X+1+1+1+1+1+1+1+1+1,0,none⟩) 1 1,.slice (some ⟨X+1+1+1+1+1+1+1+1+1+1,0,none⟩) 1 1,.string ⟨#[46]⟩,.int .i64 6,.int .i64 0,.slice (some ⟨X+1+1+1+1+1+1+1,0,none⟩) 1 1,.slice (some ⟨X+1+1+1+1+1+1+1+1+1+1+1,0,none⟩) 1 1,.int .i64 2,.int .i64 50]:=by rw[<-fy];exact aq c0 (by omega) _
 replace c1:ai v10 (X+1) 0 [.string ⟨#[]⟩,.int .i64 7,.int .i64 0]:=by rw[<-fy];exact aq c1 (by omega) _
 replace c2:ai v10 (X+1+1) 0 [.string ⟨#[119,46,120]⟩,.int .i64 1,.int .i64 life,.slice (some ⟨X+1,0,none⟩) 1 1,.slice none 0 0]:=by rw[<-fy];exact aq c2 (by omega) _
 replace c3:ai v10 (X+1+1+1) 0 [.string ⟨#[97]⟩,.int .i64 0,.int .i64 0]:=by rw[<-fy];exact aq c3 (by omega) _
 replace c4:ai v10 (X+1+1+1+1) 0 [.string ⟨#[]⟩,.int .i64 1,.int .i64 0]:=by rw[<-fy];exact aq c4 (by omega) _
 replace c5:ai v10 (X+1+1+1+1+1) 0 [.string ⟨#[120]⟩,.int .i64 2,.int .i64 0,.slice (some ⟨X+1+1+1,0,none⟩) 1 1,.slice none 0 0,.string ⟨#[120]⟩,.int .i64 4,.int .i64 0,.slice (some ⟨X+1+1+1+1,0,none⟩) 1 1,.slice none 0 0,.string ⟨#[119,46,120]⟩,.int .i64 1,.int .i64 life,.slice (some ⟨X+1,0,none⟩) 1 1,.slice none 0 0]:=by rw[<-fy];exact aq c5 (by omega) _
 replace c6:ai v10 (X+1+1+1+1+1+1) 0 [.string ⟨#[120]⟩,.slice (some ⟨X+1+1+1+1+1,0,none⟩) 3 3]:=by rw[<-fy];exact aq c6 (by omega) _
 replace c7:ai v10 (X+1+1+1+1+1+1+1) 0 [.string ⟨#[]⟩,.int .i64 1,.int .i64 1]:=by rw[<-fy];exact aq c7 (by omega) _
 replace c8:ai v10 (X+1+1+1+1+1+1+1+1) 0 [.string ⟨#[46]⟩,.int .i64 6,.int .i64 0,.slice (some ⟨X+1+1+1+1+1+1+1,0,none⟩) 1 1]:=by rw[<-fy];exact aq c8 (by omega) _
 have c10:ai v11 (X+1+1+1+1+1+1+1+1+1+1) 0 [.int .i64 0,.int .i64 0,.int .i64 20,.string ⟨#[120]⟩,.slice (some ⟨X+1+1+1+1+1,0,none⟩) 3 3]:=eN _ _ z10 eT.symm;replace c0:ai v11 (X) 0 [.slice (some ⟨X+1+1+1+1+1+1+1+1+1,0,none⟩) 1 1,.slice (some ⟨X+1+1+1+1+1+1+1+1+1+1,0,none⟩) 1 1,.string ⟨#[46]⟩,.int .i64 6,.int .i64 0,.slice (some ⟨X+1+1+1+1+1+1+1,0,none⟩) 1 1,.slice (some ⟨X+1+1+1+1+1+1+1+1+1+1+1,0,none⟩) 1 1,.int .i64 2,.int .i64 50]:=by rw[<-eT];exact aq c0 (by omega) _
 replace c1:ai v11 (X+1) 0 [.string ⟨#[]⟩,.int .i64 7,.int .i64 0]:=by rw[<-eT];exact aq c1 (by omega) _
 replace c2:ai v11 (X+1+1) 0 [.string ⟨#[119,46,120]⟩,.int .i64 1,.int .i64 life,.slice (some ⟨X+1,0,none⟩) 1 1,.slice none 0 0]:=by rw[<-eT];exact aq c2 (by omega) _
 replace c3:ai v11 (X+1+1+1) 0 [.string ⟨#[97]⟩,.int .i64 0,.int .i64 0]:=by rw[<-eT];exact aq c3 (by omega) _
 replace c4:ai v11 (X+1+1+1+1) 0 [.string ⟨#[]⟩,.int .i64 1,.int .i64 0]:=by rw[<-eT];exact aq c4 (by omega) _
 replace c5:ai v11 (X+1+1+1+1+1) 0 [.string ⟨#[120]⟩,.int .i64 2,.int .i64 0,.slice (some ⟨X+1+1+1,0,none⟩) 1 1,.slice none 0 0,.string ⟨#[120]⟩,.int .i64 4,.int .i64 0,.slice (some ⟨X+1+1+1+1,0,none⟩) 1 1,.slice none 0 0,.string ⟨#[119,46,120]⟩,.int .i64 1,.int .i64 life,.slice (some ⟨X+1,0,none⟩) 1 1,.slice none 0 0]:=by rw[<-eT];exact aq c5 (by omega) _
 replace c6:ai v11 (X+1+1+1+1+1+1) 0 [.string ⟨#[120]⟩,.slice (some ⟨X+1+1+1+1+1,0,none⟩) 3 3]:=by rw[<-eT];exact aq c6 (by omega) _
 replace c7:ai v11 (X+1+1+1+1+1+1+1) 0 [.string ⟨#[]⟩,.int .i64 1,.int .i64 1]:=by rw[<-eT];exact aq c7 (by omega) _
 replace c8:ai v11 (X+1+1+1+1+1+1+1+1) 0 [.string ⟨#[46]⟩,.int .i64 6,.int .i64 0,.slice (some ⟨X+1+1+1+1+1+1+1,0,none⟩) 1 1]:=by rw[<-eT];exact aq c8 (by omega) _
 replace c9:ai v11 (X+1+1+1+1+1+1+1+1+1) 0 [.string ⟨#[97]⟩,.int .i64 1,.int .i64 0]:=by rw[<-eT];exact aq c9 (by omega) _
 have c11:ai v12 (X+1+1+1+1+1+1+1+1+1+1+1) 0 [.int .i64 1]:=eN _ _ z11 ef.symm;replace c0:ai v12 (X) 0 [.slice (some ⟨X+1+1+1+1+1+1+1+1+1,0,none⟩) 1 1,.slice (some ⟨X+1+1+1+1+1+1+1+1+1+1,0,none⟩) 1 1,.string ⟨#[46]⟩,.int .i64 6,.int .i64 0,.slice (some ⟨X+1+1+1+1+1+1+1,0,none⟩) 1 1,.slice (some ⟨X+1+1+1+1+1+1+1+1+1+1+1,0,none⟩) 1 1,.int .i64 2,.int .i64 50]:=by rw[<-ef];exact aq c0 (by omega) _
 replace c1:ai v12 (X+1) 0 [.string ⟨#[]⟩,.int .i64 7,.int .i64 0]:=by rw[<-ef];exact aq c1 (by omega) _
 replace c2:ai v12 (X+1+1) 0 [.string ⟨#[119,46,120]⟩,.int .i64 1,.int .i64 life,.slice (some ⟨X+1,0,none⟩) 1 1,.slice none 0 0]:=by rw[<-ef];exact aq c2 (by omega) _
 replace c3:ai v12 (X+1+1+1) 0 [.string ⟨#[97]⟩,.int .i64 0,.int .i64 0]:=by rw[<-ef];exact aq c3 (by omega) _
 replace c4:ai v12 (X+1+1+1+1) 0 [.string ⟨#[]⟩,.int .i64 1,.int .i64 0]:=by rw[<-ef];exact aq c4 (by omega) _
 replace c5:ai v12 (X+1+1+1+1+1) 0 [.string ⟨#[120]⟩,.int .i64 2,.int .i64 0,.slice (some ⟨X+1+1+1,0,none⟩) 1 1,.slice none 0 0,.string ⟨#[120]⟩,.int .i64 4,.int .i64 0,.slice (some ⟨X+1+1+1+1,0,none⟩) 1 1,.slice none 0 0,.string ⟨#[119,46,120]⟩,.int .i64 1,.int .i64 life,.slice (some ⟨X+1,0,none⟩) 1 1,.slice none 0 0]:=by rw[<-ef];exact aq c5 (by omega) _
 replace c6:ai v12 (X+1+1+1+1+1+1) 0 [.string ⟨#[120]⟩,.slice (some ⟨X+1+1+1+1+1,0,none⟩) 3 3]:=by rw[<-ef];exact aq c6 (by omega) _
 replace c7:ai v12 (X+1+1+1+1+1+1+1) 0 [.string ⟨#[]⟩,.int .i64 1,.int .i64 1]:=by rw[<-ef];exact aq c7 (by omega) _
 replace c8:ai v12 (X+1+1+1+1+1+1+1+1) 0 [.string ⟨#[46]⟩,.int .i64 6,.int .i64 0,.slice (some ⟨X+1+1+1+1+1+1+1,0,none⟩) 1 1]:=by rw[<-ef];exact aq c8 (by omega) _
 replace c9:ai v12 (X+1+1+1+1+1+1+1+1+1) 0 [.string ⟨#[97]⟩,.int .i64 1,.int .i64 0]:=by rw[<-ef];exact aq c9 (by omega) _
 replace c10:ai v12 (X+1+1+1+1+1+1+1+1+1+1) 0 [.int .i64 0,.int .i64 0,.int .i64 20,.string ⟨#[120]⟩,.slice (some ⟨X+1+1+1+1+1,0,none⟩) 3 3]:=by rw[<-ef];exact aq c10 (by omega) _
 have hb:Below X v0 v12:=by
  rw[<-ef,<-eT,<-fy,<-fZ,<-gH,<-ii,<-iW,<-ki,<-lB,<-m9,<-go,<-rR];exact (((((((((((((vQ _ _).alloc (Nat.le_of_eq z0.symm) _).alloc (by simp <;> omega) _).alloc (by simp <;> omega) _).alloc (by simp <;> omega) _).alloc (by simp <;> omega) _).alloc (by simp <;> omega) _).alloc (by simp <;> omega) _).alloc (by simp <;> omega) _).alloc (by simp <;> omega) _).alloc (by simp <;> omega) _).alloc (by simp <;> omega) _).alloc (by simp <;> omega) _)
 have hR:jf v12 [.slice (some ⟨X+1+1+1+1+1+1+1+1+1,0,none⟩) 1 1,.slice (some ⟨X+1+1+1+1+1+1+1+1+1+1,0,none⟩) 1 1,.string ⟨#[46]⟩,.int .i64 6,.int .i64 0,.slice (some ⟨X+1+1+1+1+1+1+1,0,none⟩) 1 1,.slice (some ⟨X+1+1+1+1+1+1+1+1+1+1+1,0,none⟩) 1 1,.int .i64 2,.int .i64 50] (Np.hxH life []):=by
  refine⟨⟨_,_,⟨#[46]⟩,_,_,rfl,rfl,by decide,?_,?_,?_,?_⟩,Np.Pd HK.out,Np.Pc HK.out⟩
  ·exact iY (R:=gz) [.string ⟨#[97]⟩,.int .i64 1,.int .i64 0] (by omega) c9 ⟨⟨#[97]⟩,rfl,by decide,rfl⟩
  ·refine iY (R:=jR) [.int .i64 0,.int .i64 0,.int .i64 20,.string ⟨#[120]⟩,.slice (some ⟨X+1+1+1+1+1,0,none⟩) 3 3] (by omega) c10 ⟨⟨#[120]⟩,_,rfl,by decide,?_,rfl⟩;refine PN (R:=bk) [.string ⟨#[120]⟩,.int .i64 2,.int .i64 0,.slice (some ⟨X+1+1+1,0,none⟩) 1 1,.slice none 0 0] [.string ⟨#[120]⟩,.int .i64 4,.int .i64 0,.slice (some ⟨X+1+1+1+1,0,none⟩) 1 1,.slice none 0 0] [.string ⟨#[119,46,120]⟩,.int .i64 1,.int .i64 life,.slice (some ⟨X+1,0,none⟩) 1 1,.slice none 0 0] rfl rfl (by omega) c5 ?_ ?_ ?_
   ·exact⟨⟨#[120]⟩,_,_,rfl,by decide,iY (R:=bF) [.string ⟨#[97]⟩,.int .i64 0,.int .i64 0] (by omega) c3 ⟨⟨#[97]⟩,rfl,by decide,rfl⟩,kU _ _ _ _,rfl⟩
   ·exact⟨⟨#[120]⟩,_,_,rfl,by decide,iY (R:=bF) [.string ⟨#[]⟩,.int .i64 1,.int .i64 0] (by omega) c4 ⟨⟨#[]⟩,rfl,by decide,rfl⟩,kU _ _ _ _,rfl⟩
   ·exact⟨⟨#[119,46,120]⟩,_,_,rfl,by decide,iY (R:=bF) [.string ⟨#[]⟩,.int .i64 7,.int .i64 0] (by omega) c1 ⟨⟨#[]⟩,rfl,by decide,rfl⟩,kU _ _ _ _,rfl⟩
  ·exact iY (R:=bF) [.string ⟨#[]⟩,.int .i64 1,.int .i64 1] (by omega) c7 ⟨⟨#[]⟩,rfl,by decide,rfl⟩
  ·exact iY (R:=gB) [.int .i64 1] (by omega) c11 rfl
 have e0:=c0 0 _ rfl;have e1:=c0 1 _ rfl;have e2:=c0 2 _ rfl;have e3:=c0 3 _ rfl;have e4:=c0 4 _ rfl;have e5:=c0 5 _ rfl;have e6:=c0 6 _ rfl;have e7:=c0 7 _ rfl;have e8:=c0 8 _ rfl;simp only[Nat.zero_add] at e0 e1 e2 e3 e4 e5 e6 e7 e8;exact bodyPost_ret (v:=.agg #[.slice (some ⟨X+1+1+1+1+1+1+1+1+1,0,none⟩) 1 1,.slice (some ⟨X+1+1+1+1+1+1+1+1+1+1,0,none⟩) 1 1,.string ⟨#[46]⟩,.int .i64 6,.int .i64 0,.slice (some ⟨X+1+1+1+1+1+1+1,0,none⟩) 1 1,.slice (some ⟨X+1+1+1+1+1+1+1+1+1+1+1,0,none⟩) 1 1,.int .i64 2,.int .i64 50]) (by simp[results,results54,go_sem,e0,e1,e2,e3,e4,e5,e6,e7,e8]) rfl ⟨[.slice (some ⟨X+1+1+1+1+1+1+1+1+1,0,none⟩) 1 1,.slice (some ⟨X+1+1+1+1+1+1+1+1+1+1,0,none⟩) 1 1,.string ⟨#[46]⟩,.int .i64 6,.int .i64 0,.slice (some ⟨X+1+1+1+1+1+1+1,0,none⟩) 1 1,.slice (some ⟨X+1+1+1+1+1+1+1+1+1+1+1,0,none⟩) 1 1,.int .i64 2,.int .i64 50],rfl,hR,hb⟩
theorem auY:fp RTx:=λ_ _ _ _ _ _ _ h=>h
theorem y8{α:Type}{R:World->Nat->List Value->α->Prop}{sz:Nat}{w:World}{B:Nat}{v:Value}{xs:List α}(h:SlR R sz w B v xs):∃ A n c,v = .slice A n c:=by
 obtain⟨A,c,rfl,_⟩:=al h;exact⟨_,_,_,rfl⟩
theorem Np.R3{z:Np.Zone}(v:Np.VZone z){x:Np.Signed}(hx:x∈z.sets):Np.UseB x:=by
 obtain⟨_,hv⟩:=Np.xg v;obtain⟨_,_,_,h4,h5,_⟩:=Np.sr (hv x hx);refine⟨by omega,λg r hg=>?_⟩
 have:=((v.form x hx).2 0 g (by rw[hg];rfl)).win
 omega
theorem Np.alX{h:Np.Hist}(v:Np.VHist h){z:List UInt8}{x:Np.Held}(hx:x∈Np.pub h.copies z):Np.UseB x.signed:=by
 obtain⟨_,_,_,⟨c,hc,_,h1⟩,_⟩:=Np.rY v.full hx;exact Np.R3 (v.each c hc).zone h1
theorem Np.alK{h:Np.Hist}(v:Np.VHist h){z:List UInt8}{x:Np.Held}(hx:x∈Np.pub h.copies z):∀ s∈x.fresh,0<=s.frm/\s.frm<s.til/\s.til<=10000000:=λs hs=>by
 obtain⟨_,_,m3,_,m5⟩:=Np.rY v.full hx;have hf:=m3.full s hs;obtain⟨c,hc,_,_,k1,_⟩:=(m5 s.frm).1 ⟨s,hs,Int.le_refl _,hf⟩;obtain⟨d,hd,_,_,_,k2⟩:=(m5 (s.til - 1)).1 ⟨s,hs,by omega,by omega⟩;have e1:=(v.each c hc).times;have e2:=(v.each d hd).times;have e3:=v.stop;omega
theorem Np.akZ{h:Np.Hist}(v:Np.VHist h)(u:Np.Use h){x:Np.Held}(hx:x∈Np.pubAll h):Np.UseB x.signed/\(∀ s∈x.fresh,0<=s.frm/\s.frm<s.til/\s.til<=10000000)/\x.fresh.length<=20000:=by
 obtain⟨z,_,hz⟩:=Np.Co.1 hx;refine⟨Np.alX v hz,Np.alK v hz,?_⟩;have hp:=u.pairs z;unfold Np.pub Np.tn at hz;obtain⟨s,_,rfl⟩:=List.mem_map.1 hz;exact yQ (ql _) (yQ (Fi _ _) (by omega))
theorem Np.Use.pubTo{h:Np.Hist}(u:Np.Use h)(k:Nat):(Np.pubTo h k).length<=2100:=Np.Qt (λc hc=>(u.each c hc).1) u.copies k
theorem Np.Use.pubAll{h:Np.Hist}(u:Np.Use h):(Np.pubAll h).length<=2100:=Np.akQ (λc hc=>(u.each c hc).1) u.copies
theorem AA(e:List Value)(h:Np.Hist)(w:World)(hV:iq w.heap.size w)(k:jf w e h) :
 Calls prog 19 #[.agg e.toArray] w λe w'=>∃ A n c,e = .returned (.tuple #[.slice A n c,.int .i64 (Np.sY h).1])/\(Np.sY h).2.length=n/\gq iO 8 0 w.heap.size w' (.slice A n c) (Np.sY h).2/\Below w.heap.size w w':=by
 obtain⟨A1,n1,c1,A2,n2,c2,s,ty,lf,A3,n3,c3,A4,n4,c4,dr,st,rfl,-,-,av,BB,rv⟩:=yX k.rh;have qC:Hid (h.drift=dr):=jq (by
  obtain⟨hv,cv,s',dv,cE,he,_⟩:=k.rh;simp only[List.cons.injEq,Value.int.injEq,true_and,and_true] at he;exact he.2.2.2.2.2.2.2.1.symm)
 have lP:=jq hV;have HI0:=jq k;obtain⟨X,hX⟩:∃ X,w.heap.size=X:=⟨_,rfl⟩;obtain⟨w1,aj⟩:∃ w1,w.alloc (.cells #[.slice A1 n1 c1,.slice A2 n2 c2,.string s,.int .i64 ty,.int .i64 lf,.slice A3 n3 c3,.slice A4 n4 c4,.int .i64 dr,.int .i64 st] 29)=w1:=⟨_,rfl⟩;have bh:w1.heap.size=X+1:=by rw[<-aj,<-hX];simp
 have hb:Below w.heap.size w w1:=by rw[<-aj];exact (vQ _ _).alloc (bQ _) _
 have aB:=jq hb;have eL:=jq (hV.next hb);have nw:=jq (k.keep hb);have bj:=jq (jV _ _ hX aj);clear hb hV k av BB rv;have k0:=bj.out 0 _ rfl;have k1:=bj.out 1 _ rfl;have k2:=bj.out 2 _ rfl;have k3:=bj.out 3 _ rfl;have k4:=bj.out 4 _ rfl;have k5:=bj.out 5 _ rfl;have k6:=bj.out 6 _ rfl;have k7:=bj.out 7 _ rfl;have k8:=bj.out 8 _ rfl;obtain⟨ax,yg⟩:∃ a,Np.sY h=a:=⟨_,rfl⟩;rw[yg];have CJ:=jq yg;clear yg;go_enter func19,ntmps19;go_wp2_with fail;clear aj;refine (cZon _ h w1 eL.out nw.out).mono ?_;rintro e w2 ⟨Az,nz,cz,rfl,Ow,ed,hb⟩;have ak:=jq (aB.out.trans (hb.mono aB.out.size));have gY:=jq (eL.out.next hb);have pC:=jq (nw.out.keep hb);have bR:=jq (bj.out.keep hb (by omega));have aM:=hb.size;have fR:=jq (ed.all auY);have Ld:=jq Ow;clear hb ed Ow k0 k1 k2 k3 k4 k5 k6 k7 k8;by_cases lp:Np.VHist h
 case neg=>
  rw[Np.RZ lp];have HN:=jq lp;clear lp;go_wp2_with fail;refine bodyPost_ret (v:=.tuple #[.slice none 0 0,.int .i64 1]) (by simp[results,results19,go_sem]) rfl ?_;rw[<-CJ.out,Np.Mi HN.out];exact⟨_,_,_,rfl,rfl,gq.nil _ _ _ _,ak.out⟩
 case pos=>
  have fS:=jq lp;rw[Np.R0 lp] at fR Ld |-;have R7:=jq (CJ.out.symm.trans (Np.Au lp));have LD:Hid (SlR RTx 1 w2 w2.heap.size (.slice Az nz cz) (Np.apexes h.copies)):=jq fR.out;have Gs:Hid ((Np.apexes h.copies).length=nz):=jq Ld.out;have SJ:Hid (0<=dr/\dr<=1000):=jq (by rw[<-qC.out];exact lp.drift);clear lp;obtain⟨B,hB⟩:∃ B,w2.heap.size=B:=⟨_,rfl⟩;have hXB:X<B:=by omega
  obtain⟨i0,nT,dZ,Zn,Zp⟩:=info_parts Tryz.infoHeldA;have rx:nz<=cz:=by
   obtain⟨A',c',h1,h2,_⟩:=al LD.out;simp only[Value.slice.injEq] at h1;omega
  have jy:nz<=1000:=by
   have h1:=Gs.out;have h2:=Mk h.copies;have h3:=pC.out.use.copies;omega
  go_wp2_with fail;go_loopw [6,23] (λvo i wr=>∃ (k m:Nat) (A:Option Addr) (c:Nat) (M:Nat->Prop),k<=nz/\i = .int .i64 k/\vo = .slice A m c/\(Np.pubTo h k).length=m/\Hid ((∀ j,j<X->M j)/\∀ j,M j->(j<X\/B<=j)/\j<wr.heap.size)/\Hid (bE iO 8 57 B M wr (.slice A m c) (Np.pubTo h k))/\Hid (Below B w2 wr)) (λ_ i _=>nz - (intOf i).toNat)
  case atStart=>exact⟨0,0,none,0,λj=>j<X,jQ _,rfl,rfl,rfl,jq ⟨λ_ h=>h,λj h=>⟨.inl h,by omega⟩⟩,jq (bE.nil _),jq (vQ _ _)⟩
  case round=>
   obtain⟨k,m,A,c,M,hk,rfl,rfl,hm,HM,HO,HB⟩:=hrel;have ap:=HB.out.size;have ie:m<=2100:=by rw[<-hm];exact pC.out.use.pubTo k
   have gM:=jq hm;clear hm;by_cases aa:k<nz
   ·obtain⟨z,ab⟩:∃ z,(Np.apexes h.copies)[k]?=some z:=⟨_,aQ (by have:=Gs.out;omega)⟩;have da:=LD.out.later nr QW (show Below w2.heap.size w2 wr by rw[hB];exact HB.out);obtain⟨b,o,zs,rfl,bC,qj,pp,e0⟩:=qu da ab;have Ut:=jq qj;have L1:=jq (Np.yN.1 (gQ ab));have GO:=jq (Np.akX ab);have Uh:=jq (gY.out.next (show Below w2.heap.size w2 wr by rw[hB];exact HB.out));have Ta:=jq (pC.out.keep (show Below w2.heap.size w2 wr by rw[hB];exact HB.out));have je:=jq (bR.out.keep HB.out (by omega));have k0:=je.out 0 _ rfl;have k1:=je.out 1 _ rfl;have k2:=je.out 2 _ rfl;have k3:=je.out 3 _ rfl;have k4:=je.out 4 _ rfl;have k5:=je.out 5 _ rfl;have k6:=je.out 6 _ rfl;have k7:=je.out 7 _ rfl;have k8:=je.out 8 _ rfl;have bX:(0:Int)<=(k:Int):=by omega
    have bW:(k:Int)<(nz:Int):=by omega
    clear da ab qj;go_wp2_with fail;refine (cPub _ h zs pp wr Uh.out Ta.out).mono ?_;rw[Ut.out];rintro e w3 ⟨Ap,np,cp,rfl,BK,Ex,hb⟩;have bw:Np.qp h z=(0,Np.pub h.copies z):=Np.Qu ⟨fS.out,by
     obtain⟨c',hc',rfl⟩:=L1.out;exact (Np.xg (fS.out.each c' hc').zone).1⟩ L1.out
    rw[bw] at BK Ex |-;dsimp only at BK Ex;have lO:=jq BK;have li:Hid (xU iO 8 M w3 Ap (Np.pub h.copies z)):=jq (auQ (Ex M (λj hj=>⟨jQ _,(HM.out.2 j hj).2⟩)) (by decide));have gb:=jq (HO.out.keep t6 qq se hb);have az:=jq (HB.out.trans (hb.mono (by omega)));have dP:=hb.size;have hmp:m+np<=2100:=by
     have h1:=pC.out.use.pubTo (k+1);rw[GO.out,List.length_append,gM.out,BK] at h1;exact h1
    have ip:=jq (HO.out.lt);clear hb BK Ex bw k0 k1 k2 k3 k4 k5 k6 k7 k8 e0;go_wp2_with (at_builtin;refine Km (R:=iO) (M:=M) w3 rfl _ _ 52 rfl B 57 i0 (.agg #[.string ⟨#[]⟩,.string ⟨#[]⟩,.int .i64 0,.int .i64 0,.slice none 0 0,.slice none 0 0,.slice none 0 0,.slice none 0 0]) 144 underlying52 nT dZ Zn Zp rfl (by decide) (.slice A m c) (Np.pubTo h k) rfl gb.out Ap cp (Np.pub h.copies z) (by rw[lO.out];rfl) li.out asX (by rw[gM.out,lO.out];unfold maxLen;omega) (by rw[gM.out,lO.out];omega) (by omega) t6 qq se ?_;intro v8 w8 fH cX j8;obtain⟨A8,c8,rfl⟩:=bE.formN fH (n:=m+np) (by rw[List.length_append,gM.out,lO.out]);have H8:=jq (And.intro fH (And.intro cX j8));clear fH cX j8);have Bz:decide ((20000:Int)<((m+np:Nat):Int))=false:=tQ (by omega);have ww:=H8.out.2.1.size;go_wp2_with fail;go_roundw
    case rel=>
     refine⟨k+1,m+np,A8,c8,_,by omega,by go_num,rfl,by rw[GO.out,List.length_append,gM.out,lO.out],jq ⟨λj hj=>Or.inl (HM.out.1 j hj),λj hj=>?_⟩,jq (by rw[GO.out];exact H8.out.1),jq (az.out.trans ((vQ _ _).grown H8.out.2.1 (by omega) (λg hg=>(ip.out g hg).1)))⟩;rcases hj with hj | hj
     ·have:=HM.out.2 j hj
      omega
     ·have:=H8.out.1.lt j hj
      omega
    case measure=>simp[intOf] <;> omega
   ·have TD:Hid (Np.pubTo h k=Np.pubAll h):=jq (Np.Qs (by have:=Gs.out;omega));rw[TD.out] at HO gM;go_wp2_with fail;clear aa hk;obtain⟨w4,rfl⟩:∃ w',w'=wr:=⟨_,rfl⟩;go_loopw [45] (λi wr=>∃ (k:Nat),k<=m/\i = .int .i64 k/\w4.heap.size<=wr.heap.size/\Hid (bE iO 8 57 B M wr (.slice A m c) (Np.nI dr (Np.pubAll h) k))/\Hid (Below B w2 wr)) (λi _=>m - (intOf i).toNat)
    case atStart=>exact⟨0,jQ _,rfl,bQ _,HO,HB⟩
    case round=>
     obtain⟨k,hk,rfl,Jd,aT,HC⟩:=hrel;have jA:=HC.out.size;have pG:Hid ((Np.nI dr (Np.pubAll h) k).length=m):=jq (by rw[Np.UJ];exact gM.out);by_cases aa:k<m
     ·obtain⟨x,ab⟩:∃ x,(Np.pubAll h)[k]?=some x:=⟨_,aQ (by rw[gM.out];exact aa)⟩;obtain⟨g,cap,hA,Ia,BA,hMg⟩:=aT.out.formSome pG.out (by omega);simp only[Value.slice.injEq,true_and] at hA;obtain⟨rfl,rfl⟩:=hA;obtain⟨b,o,zs,sn,dv,sv,fv,pv,tj,bC,qj,aF,aV,aR,mO,mX,e0,e1,e2,e3,e4,e5,e6,e7⟩:=Ee (aT.out.slr qq (by rw[pG.out];omega)) (Np.Mh ab);simp only[Option.some.injEq,Addr.mk.injEq,and_true] at tj;obtain⟨rfl,rfl⟩:=tj;obtain⟨dA,dn,dc,rfl⟩:=y8 aV;obtain⟨gA,gn,gc,rfl⟩:=y8 aR;obtain⟨fA,fn,fc,rfl⟩:=y8 mO;obtain⟨pA,pn,pc,rfl⟩:=y8 mX;have uK:=jq aR;have xx:=jq mO;have Da:=jq (Np.akZ fS.out pC.out.use (gQ ab));have HAT:=jq (Np.Mh (d:=dr) ab);have dI:=jq (Np.UK (d:=dr) ab);obtain⟨w5,aP⟩:∃ w',wr.alloc (.cells #[.string zs,.string sn,.int .i64 x.signed.set.type,.int .i64 x.signed.set.life,.slice dA dn dc,.slice gA gn gc,.slice fA fn fc,.slice pA pn pc] 57)=w':=⟨_,rfl⟩;have aC:Below wr.heap.size wr w5:=by rw[<-aP];exact (vQ _ _).alloc (bQ _) _
      have jB:wr.heap.size<w5.heap.size:=by rw[<-aP];simp
      have lL:=jq (jV _ _ rfl aP);have cj:=jq aC;have kp:=jq (HC.out.trans (aC.mono (by omega)));have k7:=(bR.out.keep kp.out (by omega)) 7 _ rfl;have bX:(0:Int)<=(k:Int):=by omega
      have bW:(k:Int)<(m:Int):=by omega
      have E7:Hid (wr.cell? ⟨g,k * 8+7,none⟩=some (.slice pA pn pc)):=jq (by simpa using e7);simp only[Nat.zero_add] at e0 e1 e2 e3 e4 e5 e6 e7;have d0:=lL.out 0 _ rfl;have d1:=lL.out 1 _ rfl;have d2:=lL.out 2 _ rfl;have d3:=lL.out 3 _ rfl;have d4:=lL.out 4 _ rfl;have d5:=lL.out 5 _ rfl;have d6:=lL.out 6 _ rfl;have d7:=lL.out 7 _ rfl;clear ab qj aF aV aR mO mX aC;go_wp2_with fail;clear aP e0 e1 e2 e3 e4 e5 e6 e7 d0 d1 d2 d3 d4 d5 d6 d7;refine (aFQ x Da.out.1 dr SJ.out Da.out.2.1 Da.out.2.2 zs sn dA gA fA pA dn dc gn gc fn fc pn pc w5 (uK.out.later dH fz cj.out) (xx.out.later dT jb cj.out)).mono ?_;rintro e w6 ⟨v6,rfl,kI,hb⟩;obtain⟨A6,c6,rfl⟩:=kI.form;obtain⟨n6,I1⟩:∃ n,(Np.ep x dr).length=n:=⟨_,rfl⟩;rw[I1] at kI |-;have oG:=jq kI;have gI:=hb.size;have ik:=jq (cj.out.trans (hb.mono (by omega)));have Ll:=jq (aT.out.keep t6 qq se ik.out);have q7:=(cl ik.out (by omega)).trans E7.out;have z7:=Ll.out.frozenAt pG.out (k * 8+7);have Li:=jq I1;clear kI hb k7 I1;go_wp2_with fail;go_roundw
      case rel=>
       refine⟨k+1,by omega,by go_num,by simp[World.setCell];omega,jq ?_,jq ((HC.out.trans (ik.out.mono (by omega))).setCell (by dsimp only;omega) _)⟩;rw[<-dI.out];have Ey:SlR cV 2 (bi w6 M) w6.heap.size (.slice A6 n6 c6) (Np.ep x dr):=(oG.out.around (n:=w5.heap.size) (bQ _) (by rw[Li.out];have:=ql (x.fresh.map (Np.jX x.signed dr));have h2:=Li.out;unfold Np.ep at h2;rw[List.length_map] at this;have:=Da.out.2.2;omega)) M (λj hj=>⟨jQ _,by have:=(HM.out.2 j hj).2;omega⟩)
       have:=bE.stored t6 qq se Ll.out pG.out HAT.out (c:=7) (by decide) (.slice A6 n6 c6) (y:=⟨x.zone,x.signed,x.fresh,Np.ep x dr⟩) (λr _ hr=>asY hr Ey)
       simpa using this
      case measure=>simp[intOf] <;> omega
     ·have bg:Hid (Np.nI dr (Np.pubAll h) k=Np.ci h):=jq (by rw[<-qC.out];exact Np.UI (by rw[gM.out];omega));rw[bg.out] at aT pG;have HE:Hid (Below w.heap.size w wr):=jq (ak.out.trans (HC.out.mono (by omega)));go_wp2_with fail;refine bodyPost_ret (v:=.tuple #[.slice A m c,.int .i64 0]) (by simp[results,results19,go_sem]) rfl ?_;rw[R7.out];refine⟨_,_,_,rfl,pG.out,λM' hM'=>?_,HE.out⟩;exact aT.out.slr_sans qq se (λj hj=>⟨HM.out.1 j (by have:=(hM' j hj).2;omega),λe=>by have:=(aT.out.lt j e).1;have:=(hM' j hj).2;omega⟩) (by rw[pG.out];omega)
end
section
open Go.RowKit Go.Shelf Go.MapKept
attribute [local go_sem] Oper.semAt_some HC.cells
theorem Tryz.infoSignedP:(prog.info? 42).map (λi=>(i.zero,i.size,i.bytes))=some (some (.agg #[.string ⟨#[]⟩,.int .i64 0,.int .i64 0,.slice none 0 0,.slice none 0 0]),5,80):=by kernel_rfl
theorem bE.sameM{α:Type}{R:World->Nat->List Value->α->Prop}{sz:Nat}{e:TypeId}{base:Nat}{M M':Nat->Prop}{w:World}{v:Value}{xs:List α}(h:bE R sz e base M w v xs)(hM:∀ k,M k↔M' k):bE R sz e base M' w v xs:=by
 have:M=M':=funext λk=>propext (hM k)
 rw[<-this];exact h
theorem auX:∀ (w:World) (B:Nat) (r:List Value) (y:Np.Signed),bk w B r y->∀ u∈r,u.oneCell'=true:=λw B r y ⟨s,v,u',_,_,h3,h4,h5⟩ u hu=>by
 obtain⟨A,c,rfl,_⟩:=al h3;obtain⟨A',c',rfl,_⟩:=al h4;rw[h5] at hu;simp only[List.mem_cons,Qh,or_false] at hu;rcases hu with rfl | rfl | rfl | rfl | rfl <;> rfl
def usP(n:List UInt8)(ty:Int)(pre:List (HC×Np.Held)):List Np.Signed:=Np.cM (Np.rj (pre.map (·.2)) n ty)
theorem Ry{n:List UInt8}{ty:Int}{pre:List (HC×Np.Held)}{x:HC×Np.Held}(h:¬ (x.2.signed.set.name=n/\x.2.signed.set.type=ty)):usP n ty (pre ++ [x])=usP n ty pre:=by
 unfold usP;rw[List.map_append,List.map_singleton,Np.Hl,Qc h]
theorem aEJ{n:List UInt8}{ty:Int}{pre:List (HC×Np.Held)}{x:HC×Np.Held}(h:x.2.signed.set.name=n/\x.2.signed.set.type=ty)(hu:x.2.signed∈usP n ty pre):usP n ty (pre ++ [x])=usP n ty pre:=by
 unfold usP at hu |-;rw[List.map_append,List.map_singleton,Np.Hl,Qb h,Np.CF,Np.Hi hu]
theorem aEZ{n:List UInt8}{ty:Int}{pre:List (HC×Np.Held)}{x:HC×Np.Held}(h:x.2.signed.set.name=n/\x.2.signed.set.type=ty)(hu:x.2.signed∉usP n ty pre):usP n ty (pre ++ [x])=usP n ty pre ++ [x.2.signed]:=by
 unfold usP at hu |-;rw[List.map_append,List.map_singleton,Np.Hl,Qb h,Np.CF,Np.jT,Qc hu]
theorem aEQ{n:List UInt8}{ty:Int}{pre:List (HC×Np.Held)}{s:Np.Signed}(h:s∈usP n ty pre):∃ x∈pre,x.2.signed=s:=by
 unfold usP Np.rj at h;rw[Np.wI,List.mem_map] at h;obtain⟨y,hy,rfl⟩:=h;obtain⟨x,hx,rfl⟩:=List.mem_map.1 (List.mem_filter.1 hy).1;exact⟨x,hx,rfl⟩
theorem aDY(n:List UInt8)(ty:Int)(pre:List (HC×Np.Held)):(usP n ty pre).length<=pre.length:=by
 unfold usP Np.rj;have h1:=Np.ub (((pre.map (·.2)).filter λx=>(x.signed.set.name == n)&&decide (x.signed.set.type=ty)).map (·.signed));rw[List.length_map] at h1;have h2:=List.length_filter_le (λx:Np.Held=>(x.signed.set.name == n)&&decide (x.signed.set.type=ty)) (pre.map (·.2));rw[List.length_map] at h2;omega
theorem azQ{α:Type}{R:World->Nat->List Value->α->Prop}{sz B:Nat}{w w':World}{v:Value}{xs:List α}(h:SlR R sz w B v xs)(he:w'.heap=w.heap)(hR:∀ e x,R w B e x->R w' B e x:=by exact λ_ _ h=>h):SlR R sz w' B v xs:=by
 obtain⟨A,c,h1,h2,h3,h4⟩:=h;refine⟨A,c,h1,h2,h3,λi x hx=>?_⟩;obtain⟨b,o,e,h5,h6,h7,h8,h9⟩:=h4 i x hx;exact⟨b,o,e,h5,h6,h7,λj v hj=>(iQ (by rw[he])).trans (h8 j v hj),hR _ _ h9⟩
def Hd(w6:World)(Mb Ob:Nat)(n:List UInt8)(ty:Int)(pre:List (HC×Np.Held))(S:Nat->Prop)(W:World):Prop:=
 ∃ v,(∀ k,S k↔(k=Mb\/k=Ob)\/v.ownBlock=some k)/\cI Mb (Np.mi (usP n ty pre)) W/\Boxed W Ob 36 v/\bE bk 5 42 w6.heap.size (λk=>Mb<=k) W v (usP n ty pre)/\RdStep (λk=>k=Mb\/k=Ob) w6 W
theorem Qn(w6:World)(Mb Ob:Nat)(n:List UInt8)(ty:Int)(hM:Mb<=w6.heap.size):fq w6.heap.size (Hd w6 Mb Ob n ty):=by
 rintro pre S W W' ⟨v,hS,h1,h2,h3,h4⟩ av;refine⟨v,hS,h1.stays (av.keep Mb h1.lt (.inr ((hS _).2 (.inl (.inl rfl))))),jU h2 av ((hS _).2 (.inl (.inr rfl))),?_,⟨av.os.trans h4.os,av.tape.trans h4.tape,av.output.trans h4.output,yQ h4.size av.size,λk hk rE=>(av.keep k (lQ hk h4.size) (.inl hk)).trans (h4.keep k hk rE)⟩⟩;exact h3.leaves ba kn bY ⟨av.os,av.tape,av.output,av.size,λi hi hm=>⟨hm,av.keep i hi (.inl (by omega))⟩⟩ (λg hg=>⟨av.keep g (h3.lt g hg).2 (.inr ((hS g).2 (.inr hg))),by have:=(h3.lt g hg).1;omega⟩)
theorem Np.akJ{h:Np.Hist}(v:Np.VHist h)(hs:Np.jS h){x:Np.Held}(hx:x∈Np.pubAll h):KeyS x.signed/\Np.Plain47 x.signed:=by
 obtain⟨z,_,hz⟩:=Np.Co.1 hx;obtain⟨_,_,_,⟨c,hc,_,h1⟩,_⟩:=Np.rY v.full hz;exact⟨R2 (v.each c hc).zone h1 (hs c hc _ h1),Np.Kq (v.each c hc).zone h1 (hs c hc _ h1)⟩
theorem Np.UH{h:Np.Hist}(v:Np.VHist h)(hs:Np.jS h){x:Np.Held}(hx:x∈Np.ci h):KeyS x.signed/\Np.Plain47 x.signed:=by
 obtain⟨y,hy,rfl⟩:=List.mem_map.1 hx;show KeyS y.signed/\Np.Plain47 y.signed;exact Np.akJ v hs hy
theorem AB(e:List Value)(h:Np.Hist)(q:ByteArray)(hq:q.size<=140737488355328)(ty t:Int)(w:World)(hV:iq w.heap.size w)(k:jf w e h) :
 Calls prog 17 #[.agg e.toArray,.agg #[.string q,.int .i64 ty],.int .i64 t] w λe w'=>∃ A n c,e = .returned (.tuple #[.slice A n c,.int .i64 (Np.rZ h q.data.toList ty t).1])/\(Np.rZ h q.data.toList ty t).2.length=n/\SlR bk 5 w' w'.heap.size (.slice A n c) (Np.rZ h q.data.toList ty t).2/\Below w.heap.size w w':=by
 obtain⟨A1,n1,c1,A2,n2,c2,s,ty0,lf,A3,n3,c3,A4,n4,c4,dr,st,rfl,-,-,-,-,-⟩:=yX k.rh;obtain⟨X,hX⟩:∃ X,w.heap.size=X:=⟨_,rfl⟩;obtain⟨px,bw⟩:∃ a,Np.rZ h q.data.toList ty t=a:=⟨_,rfl⟩;rw[bw];have sP:=jq bw;obtain⟨w1,aj⟩:∃ w1,(w.alloc (.cells #[.slice A1 n1 c1,.slice A2 n2 c2,.string s,.int .i64 ty0,.int .i64 lf,.slice A3 n3 c3,.slice A4 n4 c4,.int .i64 dr,.int .i64 st] 29)).alloc (.cells #[.string q,.int .i64 ty] 31)=w1:=⟨_,rfl⟩;have bh:w1.heap.size=X+2:=by rw[<-aj,<-hX];simp
 have hb:Below w.heap.size w w1:=by rw[<-aj];exact ((vQ _ _).alloc (bQ _) _).alloc (by simp) _
 have ay:=jq hb;have eL:=jq (hV.next hb);have nw:=jq (k.keep hb);have bj:Hid (qw w1 X [.slice A1 n1 c1,.slice A2 n2 c2,.string s,.int .i64 ty0,.int .i64 lf,.slice A3 n3 c3,.slice A4 n4 c4,.int .i64 dr,.int .i64 st]):=jq (by
  rw[<-aj,<-hX];exact (jV [.slice A1 n1 c1,.slice A2 n2 c2,.string s,.int .i64 ty0,.int .i64 lf,.slice A3 n3 c3,.slice A4 n4 c4,.int .i64 dr,.int .i64 st] 29 rfl rfl).keep ((vQ _ _).alloc (bQ _) _) (by simp))
 have q0:w1.cell? ⟨X+1,0,none⟩=some (.string q):=by rw[<-aj,<-hX];simp[go_sem]
 have q1:w1.cell? ⟨X+1,1,none⟩=some (.int .i64 ty):=by rw[<-aj,<-hX];simp[go_sem]
 have lh:=jq (And.intro q0 q1);have TQ:=jq hq;clear hb hV k bw hq;have k0:=bj.out 0 _ rfl;have k1:=bj.out 1 _ rfl;have k2:=bj.out 2 _ rfl;have k3:=bj.out 3 _ rfl;have k4:=bj.out 4 _ rfl;have k5:=bj.out 5 _ rfl;have k6:=bj.out 6 _ rfl;have k7:=bj.out 7 _ rfl;have k8:=bj.out 8 _ rfl;refine (callsIn_wide (n:=0)).1 ?_;refine callsIn_of_wp_marks func17 rfl trivial ?_ rfl;simp only[ntmps17,List.size_toArray,List.length_cons,List.length_nil,Nat.reduceAdd,Nat.reduceSub,Array.replicate_succ,Array.replicate_zero,List.push_toArray,List.append_toArray,List.nil_append,List.cons_append];gi_wp2_with fail;clear aj;refine⟨trivial,rfl,?_⟩;refine (callsIn_wide.2 (U6 _ h w1 eL.out nw.out)).mono ?_;rintro e w2 ⟨rfl,hb⟩;have aM:=hb.size;have ak:=jq (ay.out.trans (hb.mono (by omega)));have gY:=jq (eL.out.next hb);have pC:=jq (nw.out.keep hb);have bR:=jq (bj.out.keep hb (by omega));replace q0:=(cl hb (by omega)).trans q0;replace q1:=(cl hb (by omega)).trans q1;have oC:=jq hb;clear hb k0 k1 k2 k3 k4 k5 k6 k7 k8;by_cases lp:Np.VHist h
 case neg=>
  rw[Np.aN lp];have HN:=jq lp;clear lp;have lI:Hid (px=((1:Int),[])):=jq (by rw[<-sP.out];exact Np.ES (λk=>HN.out k.1));gi_wp2_with fail;refine⟨trivial,?_⟩;gi_wp2_with fail;refine ll (v:=.tuple #[.slice none 0 0,.int .i64 1]) (by simp[results,results17,go_sem]) ?_;rw[lI.out];exact⟨_,_,_,rfl,rfl,kU _ _ _ _,ak.out⟩
 case pos=>
  rw[Np.bO lp];have fS:=jq lp;clear lp;gi_wp2_with fail;refine⟨trivial,rfl,?_⟩;refine (callsIn_wide.2 (Yq q TQ.out ty w2)).mono ?_;rintro e w3 ⟨rfl,hb⟩;have dP:=hb.size;have az:=jq (ak.out.trans (hb.mono (by omega)));have jN:=jq (gY.out.next hb);have pD:=jq (pC.out.keep hb);have bP:=jq (bR.out.keep hb (by omega));have uh:=jq (oC.out.trans (hb.mono (by omega)));clear hb q0 q1;by_cases hQ:Np.QOk q.data.toList ty
  case neg=>
   rw[Np.aN hQ];have HN:=jq hQ;clear hQ;have lI:Hid (px=((1:Int),[])):=jq (by rw[<-sP.out];exact Np.ES (λk=>HN.out k.2.1));gi_wp2_with fail;refine ll (v:=.tuple #[.slice none 0 0,.int .i64 1]) (by simp[results,results17,go_sem]) ?_;rw[lI.out];exact⟨_,_,_,rfl,rfl,kU _ _ _ _,az.out⟩
  case pos=>
   rw[Np.bO hQ];have Df:=jq hQ;clear hQ;by_cases wn:t<0
   ·have yj:decide (t<0)=true:=uQ wn;have HN:=jq wn;clear wn;have lI:Hid (px=((1:Int),[])):=jq (by rw[<-sP.out];exact Np.ES (λk=>by have:=k.2.2.1;have:=HN.out;omega));gi_wp2_with fail;refine ll (v:=.tuple #[.slice none 0 0,.int .i64 1]) (by simp[results,results17,go_sem]) ?_;rw[lI.out];exact⟨_,_,_,rfl,rfl,kU _ _ _ _,az.out⟩
   ·have yj:decide (t<0)=false:=tQ wn;by_cases wt:20000000<t
    ·have gE:decide (20000000<t)=true:=uQ wt;have HN:=jq wt;clear wt;have lI:Hid (px=((1:Int),[])):=jq (by rw[<-sP.out];exact Np.ES (λk=>by have:=k.2.2.2;have:=HN.out;omega));gi_wp2_with fail;refine ll (v:=.tuple #[.slice none 0 0,.int .i64 1]) (by simp[results,results17,go_sem]) ?_;rw[lI.out];exact⟨_,_,_,rfl,rfl,kU _ _ _ _,az.out⟩
    ·have gE:decide (20000000<t)=false:=tQ wt;have bI:Hid (Np.Dp h q.data.toList ty t):=jq ⟨fS.out,Df.out,by omega,by omega⟩;have CJ:Hid (px=((0:Int),Np.eD (Np.ci h) q.data.toList ty t)):=jq (by rw[<-sP.out];exact Np.ET bI.out);clear wn wt;have k0:=bP.out 0 _ rfl;have k1:=bP.out 1 _ rfl;have k2:=bP.out 2 _ rfl;have k3:=bP.out 3 _ rfl;have k4:=bP.out 4 _ rfl;have k5:=bP.out 5 _ rfl;have k6:=bP.out 6 _ rfl;have k7:=bP.out 7 _ rfl;have k8:=bP.out 8 _ rfl;gi_wp2_with fail;refine⟨trivial,rfl,?_⟩;refine (callsIn_wide.2 (AA _ h w3 jN.out pD.out)).mono ?_;rw[Np.Au fS.out];rintro e w4 ⟨Aa,na,ca,rfl,mS,BX,hb⟩;have eC:=hb.size;have br:=jq (az.out.trans (hb.mono (by omega)));have R8:=jq (uh.out.trans (hb.mono (by omega)));have mB:=jq (jN.out.next hb).pow;have TS:Hid (SlR iO 8 w4 w4.heap.size (.slice Aa na ca) (Np.ci h)):=jq (BX.all qq);have I2:(Np.ci h).length=na:=mS;have aZQ:na<=2100:=by rw[<-I2];unfold Np.ci;rw[List.length_map];exact nw.out.use.pubAll
     have To:=jq I2;clear hb BX mS I2 k0 k1 k2 k3 k4 k5 k6 k7 k8 yj gE;obtain⟨Mb,AW⟩:∃ Mb,w4.heap.size=Mb:=⟨_,rfl⟩;have pb:∀ (w:World),(Instr.makeMap 111 none).run prog w = .ok (.map (some w.heap.size)) (w.alloc (.map #[] 0)):=λw=>by
      simp[Instr.makeMap,Result.andThen]
     obtain⟨w5,aP⟩:∃ w5,((w4.alloc (.map #[] 0)).alloc (.cells #[.map (some Mb)] 111)).alloc (.cells #[.slice none 0 0] 36)=w5:=⟨_,rfl⟩;have jB:w5.heap.size=Mb+3:=by rw[<-aP,<-AW];simp
     have aC:Below w4.heap.size w4 w5:=by rw[<-aP];exact (((vQ _ _).alloc (bQ _) _).alloc (by simp) _).alloc (by simp <;> omega) _
     have qU:Hid (cI Mb [] w5):=jq (by
      rw[<-aP,<-AW];exact ((cI.made w4).keep ((vQ _ _).alloc (bQ _) _) (by simp)).keep ((vQ _ _).alloc (bQ _) _) (by simp <;> omega))
     have Uk:Hid (Boxed w5 (Mb+1) 111 (.map (some Mb))):=jq (by
      rw[<-aP,<-AW]
      have:=(Boxed.new (w4.alloc (.map #[] 0)) 111 (.map (some w4.heap.size))).alloc (.cells #[.slice none 0 0] 36)
      simpa using this)
     have mA:Hid (Boxed w5 (Mb+1+1) 36 (.slice none 0 0)):=jq (by
      rw[<-aP,<-AW]
      have:=Boxed.new ((w4.alloc (.map #[] 0)).alloc (.cells #[.map (some w4.heap.size)] 111)) 36 (.slice none 0 0)
      simpa using this)
     have cj:=jq (br.out.trans (aC.mono (by omega)));have R9:=jq (R8.out.trans (aC.mono (by omega)));have sF:=jq aC;clear aC;gi_wp2_with fail;clear pb;refine⟨trivial,rfl,?_⟩;refine (callsIn_wide.2 (W7 _ Aa na ca rfl t w5)).mono ?_;rintro e w6 ⟨rfl,bN⟩;have gI:w6.heap.size=Mb+5:=by rw[bN];simp;omega
     have aO:Below w5.heap.size w5 w6:=by rw[bN];exact ((vQ _ _).alloc (bQ _) _).alloc (by simp) _
     have kX:w6.cell? ⟨Mb+3,0,none⟩=some (.slice Aa na ca):=by rw[bN,<-jB];simp[go_sem]
     have kT:w6.cell? ⟨Mb+3+1,0,none⟩=some (.int .i64 t):=by rw[bN,show Mb+3+1=w5.heap.size+1 by omega];simp[go_sem]
     rw[jB];have zu:=jq (sF.out.trans (aO.mono (by omega)));obtain⟨L,g9,mJ,oT⟩:=Xw (TS.out.keep t6 zu.out);have La:Hid (∀ x∈L,xr w6 w4.heap.size x.1 x.2):=jq (λx hx=>by
      obtain⟨i,hi⟩:=List.mem_iff_getElem?.1 hx;exact (oT i x hi).1)
     have Lb:Hid (∀ x∈L,KeyS x.2.signed/\Np.Plain47 x.2.signed):=jq (λx hx=>Np.UH fS.out nw.out.sums (by rw[<-g9];exact List.mem_map.2 ⟨x,hx,rfl⟩));have uv:=jq (W8 L t (Mb+3) (Mb+3+1) na ca (λk=>k<w6.heap.size/\¬ (k=Mb\/k=Mb+1+1)) Aa w6 ⟨by omega,by omega⟩ ⟨by omega,by omega⟩ kX kT mJ (by omega)
      (λi x hx=>by
        obtain⟨_,b,o,h1,h2,h3⟩:=oT i x hx;exact⟨b,o,h1,⟨by omega,by omega⟩,h3⟩)
      (λx hx W hW=>by
        have h1:=(La.out x hx).spans;have aL:Below w4.heap.size w6 ({ w6 with heap:=W.heap } : World):=⟨rfl,rfl,rfl,hW.1,λk hk=>(hW.2 k ⟨by omega,by omega⟩).2⟩;have h2:=(h1.keep dT aL).more jb (show w4.heap.size<=W.heap.size by have:=hW.1;omega);exact azQ h2 rfl))
     have Gv:Hid (cI Mb [] w6):=jq (qU.out.keep aO (by omega));have Ul:Hid (Boxed w6 (Mb+1) 111 (.map (some Mb))):=jq (cR Uk.out aO (by omega));have oG:Hid (Boxed w6 (Mb+1+1) 36 (.slice none 0 0)):=jq (cR mA.out aO (by omega));have dh:=jq (cj.out.trans (aO.mono (by omega)));have Kv:=jq (R9.out.trans (aO.mono (by omega)));have kY:=jq g9;have zM:=jq mJ;have qV:=jq (mB.out.keep zu.out);have TG:Hid (1<Mb):=jq (by rw[<-AW];exact mB.out.lt);have Ha:=jq gI;clear aO bN aP kX kT g9 oT mJ;gi_wp2_with fail;refine Fp (Dr:=λk=>k<w6.heap.size/\¬ (k=Mb\/k=Mb+1+1)) (w0:=w6) (first:=#[]) (captured:=#[.pointer (some ⟨Mb+3,0,none⟩),.pointer (some ⟨Mb+3+1,0,none⟩)]) (gf:=127) rfl VU (mk:=λy=>#[y,.pointer (some ⟨Mb+3,0,none⟩),.pointer (some ⟨Mb+3+1,0,none⟩)]) (λ_=>rfl)
      uv.out (dU.refl λk e=>e.1) (λ_=>rfl) (Hd w6 Mb (Mb+1+1) q.data.toList ty) (λ_ _ _ _=>False)
      (Qn _ _ _ _ _ (by omega)) (λc s S W W' h _=>h)
      (λk=>k=Mb\/k=Mb+1+1) (λk h1 h2=>h2.2 h1) (by intro k h;omega)
      ⟨.slice none 0 0,λk=>by simp[Value.ownBlock],Gv.out,oG.out,bE.nil _,RdStep.refl _ _⟩ ?round ?done ?stop
     case stop=>
      rintro D c pre S W hD fu bd fI h hK;exact h.elim
     case done=>
      rintro D S W hD fu bd ⟨v,hS,hms,eR,hown,aJ⟩ hK;have tp:usP q.data.toList ty (L.filter λx=>Np.Cy x.2.spans t)=Np.eD (Np.ci h) q.data.toList ty t:=by
       unfold usP;rw[Np.aiZ,<-kY.out,List.filter_map];rfl
      rw[tp] at hown;obtain⟨m,hm⟩:∃ m,(Np.eD (Np.ci h) q.data.toList ty t).length=m:=⟨_,rfl⟩;have ie:m<=2100:=by rw[<-hm];have:=Np.JM (Np.ci h) q.data.toList ty t;have:=To.out;omega
      obtain⟨vA,vc,rfl⟩:=hown.formN hm;have HM:=jq hm;have bc:=eR.cell;have tf:=aJ.size;have aa:=(eQ.1 hK).1;have ji:Hid (SlR bk 5 (W.putObj D (.deferred none)) W.heap.size (.slice vA m vc) (Np.eD (Np.ci h) q.data.toList ty t)):=jq (by
       have h1:=hown.leaves (w':=W.putObj D (.deferred none)) (M':=λk=>Mb<=k) ba kn bY ⟨rfl,rfl,rfl,by simp,λi hi IZ=>⟨IZ,zQ (by omega)⟩⟩ (λg hg=>⟨zQ (λe=>fu (e ▸ (hS g).2 (.inr hg))),by have:=(hown.lt g hg).1;omega⟩);have h2:=h1.slr kn (by rw[hm];omega);simpa using h2)
      have aU:Hid (Below X w W):=jq ((show Below X w w6 by rw[<-hX];exact dh.out).trans (aJ.below (by omega) (λk e=>by omega)));have pF:=jq hK;have um:Hid (X<=D):=jq (by omega);clear hK hown eR hms hS aJ tp hm;gi_wp2_with fail;refine nN pF.out (v:=.tuple #[.slice vA m vc,.int .i64 0]) (by simp[results,results17,go_sem]) ?_;rw[CJ.out];exact⟨_,_,_,rfl,HM.out,by simpa using ji.out,by rw[hX];exact nL aU.out um.out _⟩
     case round=>
      rintro l0 pre ⟨⟨xz,xs,xty,xlf,dA,dn,dc,gA,gn,gc,fA,fn,fc,pA,pn,pc⟩,cc⟩ S W bw hI eu;have Db:=jq bw;have LY:Hid ((⟨xz,xs,xty,xlf,dA,dn,dc,gA,gn,gc,fA,fn,fc,pA,pn,pc⟩,cc)∈L):=jq ((List.mem_filter.1 (bw.subset (List.mem_append_right _ (List.mem_singleton.2 rfl)))).1);have iD:pre.length<=2100:=by
       have h1:=bw.length_le;have h2:=List.length_filter_le (λx:HC×Np.Held=>Np.Cy x.2.spans t) L;have h3:=zM.out;rw[List.length_append,List.length_singleton] at h1;omega
      have oJ:Hid (∀ y∈pre,Np.Plain47 y.2.signed):=jq (λy hy=>(Lb.out y (List.mem_filter.1 (bw.subset (List.mem_append_left _ hy))).1).2);have lW:Hd w6 Mb (Mb+1+1) q.data.toList ty pre S (W.alloc (.cells #[.string xz,.string xs,.int .i64 xty,.int .i64 xlf,.slice dA dn dc,.slice gA gn gc,.slice fA fn fc,.slice pA pn pc] 57)):=by
       obtain⟨v,hS,hms,eR,hown,aJ⟩:=hI;have hb:Below W.heap.size W (W.alloc (.cells #[.string xz,.string xs,.int .i64 xty,.int .i64 xlf,.slice dA dn dc,.slice gA gn gc,.slice fA fn fc,.slice pA pn pc] 57)):=(vQ _ _).alloc (bQ _) _;exact⟨v,hS,hms.keep hb hms.lt,eR.alloc _,hown.keep ba kn bY hb,aJ.then_below hb⟩
      have tf:w6.heap.size<=W.heap.size:=by obtain⟨v,_,_,_,_,aJ⟩:=hI;exact aJ.size
      have aNY:=jq eu;clear hI bw;gi_wp2;refine⟨λk=>S k\/k=W.heap.size,(RdStep.refl S W).alloc _,λk e=>e.imp id (λh=>by omega),λk e=>by rcases e with e | e;have:=eu k e;simp;omega;simp;omega,?_⟩;intro l W₂ av;obtain⟨E,hE⟩:∃ E,W.heap.size=E:=⟨_,rfl⟩;obtain⟨v,hS,hms,eR,hown,aJ⟩:=Qn w6 Mb (Mb+1+1) q.data.toList ty (by omega) pre S _ W₂ lW (av.weaken (bQ _) (λk e=>.inl e));have jA:=av.size;simp only[World.size_alloc] at jA;have gi:W₂.heap[E]?=some (.cells #[.string xz,.string xs,.int .i64 xty,.int .i64 xlf,.slice dA dn dc,.slice gA gn gc,.slice fA fn fc,.slice pA pn pc] 57 (0,0)):=by rw[<-hE];exact (av.keep W.heap.size (by simp) (.inr (.inr rfl))).trans (heap_alloc_new _ _)
      have kV:=jq gi;rw[hE] at jA tf |-;have d1:W₂.cell? ⟨E,1,none⟩=some (.string xs):=(by simp[World.cell?,gi]);have d2:W₂.cell? ⟨E,2,none⟩=some (.int .i64 xty):=(by simp[World.cell?,gi]);have d3:W₂.cell? ⟨E,3,none⟩=some (.int .i64 xlf):=(by simp[World.cell?,gi]);have d4:W₂.cell? ⟨E,4,none⟩=some (.slice dA dn dc):=(by simp[World.cell?,gi]);have d5:W₂.cell? ⟨E,5,none⟩=some (.slice gA gn gc):=(by simp[World.cell?,gi]);have lX:∀ k,S k->k<W₂.heap.size:=λk e=>by have:=eu k e;omega
      have rS:∀ g,v.ownBlock=some g->w6.heap.size<=g/\g<W₂.heap.size:=λg hg=>hown.lt g hg;have Ic:¬ S E:=λe=>by have:=eu _ e;omega
      obtain⟨us,EC⟩:∃ us,usP q.data.toList ty pre=us:=⟨_,rfl⟩;have pK:=jq EC;have Y2:us.length<=2100:=by rw[<-EC];have:=aDY q.data.toList ty pre;omega
      rw[EC] at hms hown;obtain⟨m,hm⟩:∃ m,us.length=m:=⟨_,rfl⟩;rw[hm] at Y2;obtain⟨vA,vc,rfl⟩:=hown.formN hm;have HM:=jq hm;have sK:=jq (La.out _ LY.out);have pJ:=jq (Lb.out _ LY.out);have Dl:Hid (∀ y∈us,Np.Plain47 y):=jq (λy hy=>by
       rw[<-pK.out] at hy;obtain⟨x,hx,rfl⟩:=aEQ hy;exact oJ.out x hx)
      have jM:=jq hS;have C2:=jq hms;have dw:=jq eR;have fP:=jq hown;have sR:=jq aJ;have ji:=jq lX;have zW:=jq rS;have bq0:W₂.cell? ⟨X+1,0,none⟩=some (.string q):=(iQ (a:=⟨X+1,0,none⟩) (aJ.keep (X+1) (by omega) (by omega))).trans ((cl Kv.out (by omega)).trans lh.out.1);have bq1:W₂.cell? ⟨X+1,1,none⟩=some (.int .i64 ty):=(iQ (a:=⟨X+1,1,none⟩) (aJ.keep (X+1) (by omega) (by omega))).trans ((cl Kv.out (by omega)).trans lh.out.2);have rc:Hid (Boxed W₂ (Mb+1) 111 (.map (some Mb))):=jq (Mw Ul.out aJ (by omega));have SI:Hid (SlR bF 3 W₂ W₂.heap.size (.slice dA dn dc) cc.signed.set.data):=jq ((sK.out.data.keep cH (aJ.below (n:=w4.heap.size) (by omega) (λk e=>by omega))).more du (by omega));have sT:Hid (SlR dm 6 W₂ W₂.heap.size (.slice gA gn gc) cc.signed.sigs):=jq ((sK.out.sigs.keep dH (aJ.below (n:=w4.heap.size) (by omega) (λk e=>by omega))).more fz (by omega));have nC:Hid (fU W₂):=jq (qV.out.keepAt (aJ.below (n:=Mb) (by omega) (λk e=>by omega)) TG.out);have G2:Hid (∀ k,(S k\/k=E)↔(((k=Mb\/k=Mb+1+1)\/(Value.slice vA m vc).ownBlock=some k)\/k=E)):=jq (λk=>or_congr (hS k) Iff.rfl);have GB:Hid (xs.data.toList=cc.signed.set.name):=jq sK.out.name;have dB:Hid (xty=cc.signed.set.type):=jq sK.out.type;have C1:Hid (xlf=cc.signed.set.life):=jq sK.out.life;have Ch:E<W₂.heap.size:=by omega
      clear hm hms eR hown hS aJ av lW rS eu lX EC gi hE;by_cases nW:xs.data.toList=q.data.toList
      case neg=>
       have hne:(xs.toList == q.toList)=false:=beq_eq_false_iff_ne.2 (λe=>nW (by rw[<-dQ,e,dQ]));have C3:=jq nW;clear nW;have dI:Hid (usP q.data.toList ty (pre ++ [(⟨xz,xs,xty,xlf,dA,dn,dc,gA,gn,gc,fA,fn,fc,pA,pn,pc⟩,cc)])=us):=jq (by rw[Ry (by rintro⟨h1,_⟩;exact C3.out (GB.out.trans h1)),pK.out]);gi_wp2_with fail;refine⟨λk=>(k=Mb\/k=Mb+1+1)\/(Value.slice vA m vc).ownBlock=some k,RdStep.refl _ _,λk e=>.inl ((G2.out k).2 (.inl e)),λk e=>ji.out k ((jM.out k).2 e),.slice vA m vc,λk=>Iff.rfl,by rw[dI.out];exact C2.out,dw.out,by rw[dI.out];exact fP.out,sR.out⟩
      case pos=>
       obtain rfl:xs=q:=lH nW;have C3:=jq nW;clear nW;by_cases Ca:xty=ty
       case neg=>
        have hne:(xty != ty)=true:=by simpa [bne] using Ca
        have yx:(xty == ty)=false:=by simpa using Ca
        have T9:=jq Ca;clear Ca;have dI:Hid (usP xs.data.toList ty (pre ++ [(⟨xz,xs,xty,xlf,dA,dn,dc,gA,gn,gc,fA,fn,fc,pA,pn,pc⟩,cc)])=us):=jq (by rw[Ry (by rintro⟨_,h1⟩;exact T9.out (dB.out.trans h1)),pK.out]);gi_wp2_with fail;refine⟨λk=>(k=Mb\/k=Mb+1+1)\/(Value.slice vA m vc).ownBlock=some k,RdStep.refl _ _,λk e=>.inl ((G2.out k).2 (.inl e)),λk e=>ji.out k ((jM.out k).2 e),.slice vA m vc,λk=>Iff.rfl,by rw[dI.out];exact C2.out,dw.out,by rw[dI.out];exact fP.out,sR.out⟩
       case pos=>
        obtain rfl:xty=ty:=Ca;have sS:Hid ((⟨⟨xs.data.toList,xty,xlf,cc.signed.set.data⟩,cc.signed.sigs⟩:Np.Signed)=cc.signed):=jq (by rw[GB.out,dB.out,C1.out]);have HAS:Hid (cc.signed.set.name=xs.data.toList/\cc.signed.set.type=xty):=jq ⟨GB.out.symm,dB.out.symm⟩;gi_wp2_with fail;refine⟨trivial,rfl,?_⟩;refine (CallsIn.inRound l (callsIn_wide.2 (YY xs xty xlf _ _ cc.signed.set.data cc.signed.sigs W₂ nC.out (by rw[sS.out];exact pJ.out.1) SI.out sT.out))).mono ?_;rw[sS.out];rintro e w7 ⟨rfl,hb⟩;have po:=hb.size;replace d1:=(hb.cell (p:=⟨E,1,none⟩) Ch).trans d1;replace d2:=(hb.cell (p:=⟨E,2,none⟩) Ch).trans d2;replace d3:=(hb.cell (p:=⟨E,3,none⟩) Ch).trans d3;replace d4:=(hb.cell (p:=⟨E,4,none⟩) Ch).trans d4;replace d5:=(hb.cell (p:=⟨E,5,none⟩) Ch).trans d5;have eI:=jq hb;have Gz:=jq (C2.out.keep hb C2.out.lt);have NN:=cR rc.out hb rc.out.lt;have C6:=jq (cR dw.out hb dw.out.lt);have Lp:=jq (fP.out.keep ba kn bY hb);have bm:=NN.cell;have bo:=C6.out.cell;have zo:=C6.out.frozen;obtain⟨key,p8⟩:∃ key,Np.dR cc.signed=key:=⟨_,rfl⟩;have oF:=jq p8;rw[p8];have iE:=Fc (P:=prog) w7 111 9 4 underlying111 underlying9 Mb _ Gz.out key (.bool false) (by kernel_rfl);clear hb p8 NN bq0 bq1;by_cases hin:cc.signed∈us
        case pos=>
         have fi:(Np.mi us).lookup key=some (.bool true):=by rw[<-oF.out];exact Np.PD hin
         rw[fi] at iE;simp only[Option.getD_some] at iE;have dI:Hid (usP xs.data.toList xty (pre ++ [(⟨xz,xs,xty,xlf,dA,dn,dc,gA,gn,gc,fA,fn,fc,pA,pn,pc⟩,cc)])=us):=jq (by rw[aEJ HAS.out (by rw[pK.out];exact hin),pK.out]);clear hin fi;gi_wp2_with fail;refine⟨λk=>(k=Mb\/k=Mb+1+1)\/(Value.slice vA m vc).ownBlock=some k,RdStep.of_below eI.out,λk e=>.inl ((G2.out k).2 (.inl e)),λk e=>by have:=ji.out k ((jM.out k).2 e);omega,.slice vA m vc,λk=>Iff.rfl,by rw[dI.out];exact Gz.out,C6.out,by rw[dI.out];exact Lp.out,sR.out.then_below eI.out⟩
        case neg=>
         have fi:(Np.mi us).lookup key=none:=by rw[<-oF.out];exact Np.PC pJ.out.2 Dl.out hin
         rw[fi] at iE;simp only[Option.getD_none] at iE;have dI:Hid (usP xs.data.toList xty (pre ++ [(⟨xz,xs,xty,xlf,dA,dn,dc,gA,gn,gc,fA,fn,fc,pA,pn,pc⟩,cc)])=us ++ [cc.signed]):=jq (by rw[aEZ HAS.out (by rw[pK.out];exact hin),pK.out]);obtain⟨wU,OC,BM,cO⟩:=Q2 (P:=prog) w7 111 9 4 underlying111 underlying9 Mb _ Gz.out key (.bool true) fi;have Zv:wU.heap.size<=w7.heap.size:=Nat.le_of_eq cO.size;have a4Z:w7.heap.size<=wU.heap.size:=Nat.le_of_eq cO.size.symm;have uD:Hid (cI Mb (Np.mi (us ++ [cc.signed])) wU):=jq (by rw[Np.ZY,oF.out];exact BM);have gd:Hid (RdStep (λk=>S k\/k=E) W₂ wU):=jq ⟨cO.os.trans eI.out.os,cO.tape.trans eI.out.tape,cO.output.trans eI.out.output,by omega,λk hk rE=>(cO.block k (λe=>rE (.inl ((jM.out k).2 (.inl (.inl e)))))).trans (eI.out.block k hk)⟩;have LC:Hid (RdStep (λk=>k=Mb\/k=Mb+1+1) w6 wU):=jq ((sR.out.then_below eI.out).trans (S':=λk=>k=Mb) ⟨cO.os,cO.tape,cO.output,by omega,λk _ rE=>cO.block k rE⟩ (λk e=>.inl (.inl e)));have xl:Hid (Boxed wU (Mb+1+1) 36 (.slice vA m vc)):=jq ((cO.block _ (by omega)).trans C6.out);have TB:Hid (bE bk 5 42 w6.heap.size (λk=>Mb<=k) wU (.slice vA m vc) us):=jq (Lp.out.leaves ba kn bY ⟨cO.os,cO.tape,cO.output,by omega,λi hi IZ=>⟨IZ,cO.block i (by omega)⟩⟩ (λg hg=>⟨cO.block g (by have:=(zW.out g hg).1;omega),by have:=(zW.out g hg).1;omega⟩));have xo:Hid (Below Mb W₂ wU):=jq ((eI.out.mono (by omega)).trans ⟨cO.os,cO.tape,cO.output,by omega,λk hk=>cO.block k (by omega)⟩);have AP:E≠Mb:=by omega
         clear hin fi BM zo bo;have bo:=xl.out.cell;have zo:=xl.out.frozen;replace d1:=(iQ (a:=⟨E,1,none⟩) (cO.block E AP)).trans d1;replace d2:=(iQ (a:=⟨E,2,none⟩) (cO.block E AP)).trans d2;replace d3:=(iQ (a:=⟨E,3,none⟩) (cO.block E AP)).trans d3;replace d4:=(iQ (a:=⟨E,4,none⟩) (cO.block E AP)).trans d4;replace d5:=(iQ (a:=⟨E,5,none⟩) (cO.block E AP)).trans d5;clear cO;obtain⟨w8,f8⟩:∃ w8,wU.alloc (.cells #[.string xs,.int .i64 xty,.int .i64 xlf,.slice dA dn dc,.slice gA gn gc] 42)=w8:=⟨_,rfl⟩;have gh:Below wU.heap.size wU w8:=by rw[<-f8];exact (vQ _ _).alloc (bQ _) _
         have ww:w8.heap.size<=wU.heap.size+1:=by rw[<-f8];simp
         have a4Q:wU.heap.size<w8.heap.size:=by rw[<-f8];simp
         have SC:Hid (ai w8 wU.heap.size 0 [.string xs,.int .i64 xty,.int .i64 xlf,.slice dA dn dc,.slice gA gn gc]):=jq (eN _ _ rfl f8.symm);have TA:=jq (TB.out.keep ba kn bY gh);have St:Hid (Boxed w8 (Mb+1+1) 36 (.slice vA m vc)):=jq (cR xl.out gh (by omega));have gr:=jq gh;have TW:Hid (bk (bi w8 λk=>Mb<=k) w8.heap.size [.string xs,.int .i64 xty,.int .i64 xlf,.slice dA dn dc,.slice gA gn gc] cc.signed):=jq (by
          have cW:Below w4.heap.size w6 w8:=((LC.out.below (n:=w4.heap.size) (by omega) (λk e=>by omega)).trans (gh.mono (by omega)));rw[<-sS.out];exact⟨xs,_,_,rfl,sK.out.short,(sK.out.data.keep cH cW).around cH du (λk e=>by omega) (by omega),(sK.out.sigs.keep dH cW).around dH fz (λk e=>by omega) (by omega),rfl⟩)
         obtain⟨si,yE,YP,YQ,YR⟩:=info_parts Tryz.infoSignedP;clear gh;gi_wp2_with (first
          | (gi_at_builtin;refine RQ rfl (by intro c h;cases h) (by rintro⟨_,_,h⟩;exact h) ?_;refine Km (R:=bk) (M:=λk=>Mb<=k) w8 rfl _ _ 36 rfl w6.heap.size 42 si (.agg #[.string ⟨#[]⟩,.int .i64 0,.int .i64 0,.slice none 0 0,.slice none 0 0]) 80 underlying36 yE YP YQ YR rfl (by decide) (.slice vA m vc) us rfl TA.out (some ⟨wU.heap.size,0,none⟩) 1 [cc.signed] rfl (E6 rfl TW.out SC.out) auX (by rw[HM.out];simp[maxLen];omega) (by rw[HM.out];simp;omega) (by omega) ba kn bY ?_;intro v9 w9 I3 Ef NG;obtain⟨A9,c9,rfl⟩:=I3.formN (n:=m+1) (by rw[List.length_append,HM.out];rfl);have yK:=Ef.size;have D6:=((Ef.block (Mb+1+1) (by omega) (λe=>by have:=(zW.out _ e.symm).1;omega)).trans St.out);have FN:Hid (Boxed w9 (Mb+1+1) 36 (.slice vA m vc)):=jq D6;have bo9:w9.cell? ⟨Mb+1+1,0,none⟩=some (.slice vA m vc):=Boxed.cell D6;have zo9:w9.frozen? ⟨Mb+1+1,0,none⟩=false:=Boxed.frozen D6;have H9:=jq (And.intro I3 (And.intro Ef NG));clear I3 Ef NG D6;refine RR ?_))
         have Je:∀ k,(Value.slice A9 (m+1) c9).ownBlock=some k->(Value.slice vA m vc).ownBlock=some k\/w8.heap.size=k:=λk e=>by
          rcases H9.out.2.2 with h | h
          ·exact .inl (h ▸ e)
          ·rw[h] at e;exact .inr (Option.some.inj e)
         have Ek:∀ k,(Value.slice A9 (m+1) c9).ownBlock=some k->w6.heap.size<=k/\k<w9.heap.size:=λk e=>H9.out.1.lt k e;refine⟨λk=>(k=Mb\/k=Mb+1+1)\/(Value.slice A9 (m+1) c9).ownBlock=some k,((gd.out.then_below gr.out).grown H9.out.2.1 (λk e=>.inl (.inl ((jM.out k).2 (.inr e))))).setCell (.inl (.inl ((jM.out _).2 (.inl (.inr rfl))))) _,λk e=>?_,λk e=>?_,?_⟩
         ·rcases e with e | e
          ·exact .inl (.inl ((jM.out _).2 (.inl e)))
          ·rcases Je k e with e | e
           ·exact .inl (.inl ((jM.out _).2 (.inr e)))
           ·right;omega
         ·simp[World.setCell];rcases e with e | e
          ·omega
          ·exact (Ek k e).2
         ·have WI:Hid (cI Mb (Np.mi (us ++ [cc.signed])) w9):=jq ((uD.out.keep gr.out (by omega)).stays (H9.out.2.1.block Mb (by omega) (λe=>by have:=(zW.out _ e.symm).1;omega)));refine⟨_,λk=>Iff.rfl,by rw[dI.out];exact WI.out.stays (wQ _ _ _ _ (by dsimp only;omega)),Boxed.set _ FN.out,?_,(((LC.out.then_below gr.out).grown H9.out.2.1 (λk e=>.inr (zW.out k e).1)).setCell (.inl (.inr rfl)) _)⟩;rw[dI.out];have h1:=H9.out.1.sameM (M':=λk=>Mb<=k) (λk=>⟨λe=>e.elim id (λe=>by have:=(Ek k e).1;omega),.inl⟩);exact h1.leaves ba kn bY (Leaves'.setCell _ _ (by dsimp only;omega) _) (λg hg=>⟨wQ _ _ _ _ (by dsimp only;have:=(Ek g hg).1;omega),by have:=(Ek g hg).1;omega⟩)
end
section
open Go.RowKit
theorem JT{α:Type}{R:World->Nat->List Value->α->Prop}{sz:Nat}{w:World}{B n c:Nat}{A:Option Addr}{xs:List α}(h:SlR R sz w B (.slice A n c) xs):xs.length=n:=by
 obtain⟨A',c',h1,_⟩:=al h;simp only[Value.slice.injEq] at h1;exact h1.2.1.symm
def Np.At(h:Np.Hist):Prop:=Np.nu h/\Np.VHist h
theorem Rz(e:List Value)(h:Np.Hist)(w:World)(hh:fo w w.heap.size e h):Calls prog 14 #[.agg e.toArray] w λe w'=>e = .returned (.bool (Np.yes (Np.At h)))/\Below w.heap.size w w':=by
 obtain⟨A1,n1,c1,A2,n2,c2,s,ty,lf,A3,n3,c3,A4,n4,c4,dr,st,rfl,-,-,-,-,-⟩:=yX hh;have HH:=jq hh;obtain⟨X,hX⟩:∃ X,w.heap.size=X:=⟨_,rfl⟩;obtain⟨w1,aj⟩:∃ w1,w.alloc (.cells #[.slice A1 n1 c1,.slice A2 n2 c2,.string s,.int .i64 ty,.int .i64 lf,.slice A3 n3 c3,.slice A4 n4 c4,.int .i64 dr,.int .i64 st] 29)=w1:=⟨_,rfl⟩;have bh:w1.heap.size=X+1:=by rw[<-aj,<-hX];simp
 have aB:Hid (Below w.heap.size w w1):=jq (by rw[<-aj];exact (vQ _ _).alloc (bQ _) _);have bj:=jq (jV _ _ hX aj);have xD:Hid (fo w1 w1.heap.size [.slice A1 n1 c1,.slice A2 n2 c2,.string s,.int .i64 ty,.int .i64 lf,.slice A3 n3 c3,.slice A4 n4 c4,.int .i64 dr,.int .i64 st] h):=jq (lF _ _ _ _ _ (lE _ _ _ _ _ HH.out aB.out) aB.out.size);clear hh;have k0:=bj.out 0 _ rfl;have k1:=bj.out 1 _ rfl;have k2:=bj.out 2 _ rfl;have k3:=bj.out 3 _ rfl;have k4:=bj.out 4 _ rfl;have k5:=bj.out 5 _ rfl;have k6:=bj.out 6 _ rfl;have k7:=bj.out 7 _ rfl;have k8:=bj.out 8 _ rfl;go_enter func14,ntmps14;go_wp2_with fail;clear aj;refine (V4 _ h w1 xD.out).mono ?_;rintro e w2 ⟨rfl,hb⟩;have aM:=hb.size;have ak:=jq hb;have bR:=jq (bj.out.keep hb (by omega));have uu:=jq (lF _ _ _ _ _ (lE _ _ _ _ _ xD.out hb) hb.size);clear hb;replace k0:=bR.out 0 _ rfl;replace k1:=bR.out 1 _ rfl;replace k2:=bR.out 2 _ rfl;replace k3:=bR.out 3 _ rfl;replace k4:=bR.out 4 _ rfl;replace k5:=bR.out 5 _ rfl;replace k6:=bR.out 6 _ rfl;replace k7:=bR.out 7 _ rfl;replace k8:=bR.out 8 _ rfl;by_cases hF:Np.nu h
 ·have HF:=jq hF;rw[Np.bO hF];clear hF;go_wp2_with fail;refine (aqQ _ h HF.out.use.fewH w2 uu.out).mono ?_;rintro e w3 ⟨rfl,hb⟩;have az:Hid (Below w.heap.size w w3):=jq (aB.out.trans ((ak.out.trans (hb.mono (by omega))).mono aB.out.size));clear hb k0 k1 k2 k3 k4 k5 k6 k7 k8;go_wp2_with fail;refine bodyPost_ret (v:=.bool (Np.yes (Np.VHist h))) (by simp[results,results14,go_sem]) rfl ⟨?_,az.out⟩;rw[Np.sB (show Np.At h↔Np.VHist h from ⟨λk=>k.2,λk=>⟨HF.out,k⟩⟩)]
 ·rw[Np.aN hF];have dw:=jq (aB.out.trans (ak.out.mono aB.out.size));go_wp2_with fail;exact bodyPost_ret (v:=.bool false) (by simp[results,results14,go_sem]) rfl ⟨by rw[Np.aN (λk:Np.At h=>hF k.1)],dw.out⟩
theorem JH(l:List Np.Signed)(x:Np.Signed)(sx:ByteArray)(qd:sx.data.toList=x.set.name)(dA:Option Addr)(dn dc:Nat)(gA:Option Addr)(gn gc:Nat)(A:Option Addr)(n c:Nat)(bp:n<=1000000)(w:World)(hl:SlR bk 5 w w.heap.size (.slice A n c) l)(hd:SlR bF 3 w w.heap.size (.slice dA dn dc) x.set.data)(hg:SlR dm 6 w w.heap.size (.slice gA gn gc) x.sigs) :
 Calls prog 18 #[.slice A n c,.agg #[.string sx,.int .i64 x.set.type,.int .i64 x.set.life,.slice dA dn dc,.slice gA gn gc]] w λe w'=>e = .returned (.bool (decide (x∈l)))/\Below w.heap.size w w':=by
 have hn:l.length=n:=JT hl;obtain⟨X,hX⟩:∃ X,w.heap.size=X:=⟨_,rfl⟩;obtain⟨w1,aj⟩:∃ w1,w.alloc (.cells #[.string sx,.int .i64 x.set.type,.int .i64 x.set.life,.slice dA dn dc,.slice gA gn gc] 42)=w1:=⟨_,rfl⟩;have hb:Below w.heap.size w w1:=by rw[<-aj];exact (vQ _ _).alloc (bQ _) _
 have bh:w1.heap.size=X+1:=by rw[<-aj,<-hX];simp
 have ay:=jq hb;have ea:=jq (jV _ _ hX aj);have HD:=jq (hd.later cH du hb);have HG:=jq (hg.later dH fz hb);have HL:=jq (hl.later ba bY hb);have HN:=jq hn;have mb:n<=c:=by
  obtain⟨A',c',h1,h2,_⟩:=al hl;simp only[Value.slice.injEq] at h1;omega
 clear hb hd hg hl hn;go_enter func18,ntmps18;go_wp2_with fail
 try clear aj
 go_loopw [9] (λi wr=>∃ k:Nat,k<=n/\i = .int .i64 k/\Hid (x∉l.take k)/\Hid (Below w1.heap.size w1 wr)) (λi _=>n - (intOf i).toNat)
 case atStart=>exact⟨0,jQ _,rfl,jq (by simp),jq (vQ _ _)⟩
 case round=>
  obtain⟨k,hk,rfl,jL,HB⟩:=hrel;have ap:=HB.out.size;by_cases aa:k<n
  ·obtain⟨y,ab⟩:∃ y,l[k]?=some y:=⟨_,aQ (by rw[HN.out];exact aa)⟩;obtain⟨b2,o2,c2,sy,dv2,sv2,go,Xi,_,gm,_,vG,tR,f0,f1,f2,f3,f4⟩:=eV (HL.out.later ba bY HB.out) ab;simp only[Value.slice.injEq] at go;obtain⟨rfl,-,rfl⟩:=go;have nD:=jq gm;have SL:=jq vG;have T2:=jq tR;have zI:Hid (l.take (k+1)=l.take k ++ [y]):=jq (by
    obtain⟨q1,q2⟩:=cQ.1 ab;rw[fQ q1,q2])
   have Gx:=jq (gQ ab);obtain⟨dA2,dn2,dc2,rfl⟩:=oq vG;obtain⟨gA2,gn2,gc2,rfl⟩:=oq tR;obtain⟨wc,qh⟩:∃ w',wr.alloc (.cells #[.string sy,.int .i64 y.set.type,.int .i64 y.set.life,.slice dA2 dn2 dc2,.slice gA2 gn2 gc2] 42)=w':=⟨_,rfl⟩;have vw:Below wr.heap.size wr wc:=by rw[<-qh];exact (vQ _ _).alloc (bQ _) _
   have gv:=jq (jV _ _ rfl qh);have ik:=jq (HB.out.trans (vw.mono ap));have zy:=jq vw;have zz:=jq (ea.out.keep ik.out (by omega));have bX:(0:Int)<=(k:Int):=by omega
   have bW:(k:Int)<(n:Int):=by omega
   have g0:=zz.out 0 _ rfl;have g1:=zz.out 1 _ rfl;have g2:=zz.out 2 _ rfl;have g3:=zz.out 3 _ rfl;have g4:=zz.out 4 _ rfl;have y0:=gv.out 0 _ rfl;have y1:=gv.out 1 _ rfl;have y2:=gv.out 2 _ rfl;have y3:=gv.out 3 _ rfl;have y4:=gv.out 4 _ rfl;clear ab gm vG tR vw;go_wp2_with fail
   try clear qh
   refine (Q3 y x sy sx nD.out qd _ _ _ _ wc (SL.out.later cH du zy.out) (T2.out.later dH fz zy.out) (HD.out.later cH du ik.out) (HG.out.later dH fz ik.out)).mono ?_;rintro e wd ⟨rfl,ix⟩;have uj:=jq (ik.out.trans (ix.mono ik.out.size));have Jz:=zy.out.size;clear ix g0 g1 g2 g3 g4 y0 y1 y2 y3 y4;by_cases b7:y=x
   ·rw[uQ b7];have HE:Hid (Below w.heap.size w wd):=jq (ay.out.trans (uj.out.mono (by omega)));have HT:Hid (decide (x∈l)=true):=jq (uQ (b7 ▸ Gx.out));clear b7;go_wp2_with fail;exact bodyPost_ret (v:=.bool true) (by simp[results,results18,go_sem]) rfl ⟨by rw[HT.out],HE.out⟩
   ·rw[tQ b7];have C5:Hid (x∉l.take (k+1)):=jq (by
     rw[zI.out,List.mem_append,List.mem_singleton];rintro (h | h)
     ·exact jL.out h
     ·exact b7 h.symm)
    clear b7;go_wp2_with fail;go_roundw
    case rel=>exact⟨k+1,by omega,by go_num,C5,uj⟩
    case measure=>simp[intOf] <;> omega
  ·have HE:Hid (Below w.heap.size w wr):=jq (ay.out.trans (HB.out.mono (by omega)));have HT:Hid (decide (x∈l)=false):=jq (tQ (λh=>jL.out (by rw[kQ (by rw[HN.out];omega)];exact h)));go_wp2_with fail;exact bodyPost_ret (v:=.bool false) (by simp[results,results18,go_sem]) rfl ⟨by rw[HT.out],HE.out⟩
end
section
open Go.ChangeShapes Go.WideShapes Go.ChangeAt Go.RowKit Go.Shelf
theorem Wo:(prog.globals[1]?).map (·.type)=some 368:=by kernel_rfl
theorem Z5:(Rows.laid_internal_strconv_uint64pow10:DataW Unit)=Lib.tabData .u64 Lib.pow10Tab:=by rfl
theorem aiX{W:World}{r:List (String×DataW Unit)}(h:laidMet prog (("internal/strconv.uint64pow10",Rows.laid_internal_strconv_uint64pow10)::r) W):fU W:=by
 rw[Z5] at h;exact Lib.tabIs_of_head Hy Wo underlying368 underlying48 (by kernel_rfl) (by kernel_rfl) h
abbrev PJ:List (String×DataW Unit):=[("math/bits.deBruijn32tab",Rows.laid_math_bits_deBruijn32tab),("math/bits.deBruijn64tab",Rows.laid_math_bits_deBruijn64tab),("internal/strconv.uint64pow10",Rows.laid_internal_strconv_uint64pow10),("nameplan/record.rules",Rows.laid_nameplan_record_rules)]
theorem O5{W:World}(h:laidMet prog PJ W):iq W.heap.size W:=by
 have hp:=aiX (laidMet.tail (laidMet.tail h));exact⟨avZ (laidMet.tail (laidMet.tail (laidMet.tail h))),hp,hp.lt⟩
def Hm:DataW Unit->Value
 | .lit (.int k n)=>.int k n
 | .lit (.bool b)=>.bool b
 | .lit (.string s)=>.string ⟨s.toArray⟩
 | _=>undef
def Wc:DataW Unit->List Value
 | .agg m=>m.map Hm
 | d=>[Hm d]
def DK:DataW Unit->List Value
 | .agg l=>l.flatMap Wc
 | d=>[Hm d]
noncomputable def wG(os:Os):World:=
 let w0:=World.holding prog os ⟨#[],#[],[]⟩
 let put (h:Array Obj) (g:Nat) (cs:Array Value):Array Obj:=h.modify g fun
  | .cells _ t frozen=>.cells cs t frozen
  | o=>o
 let h5:=put w0.heap 1 (DK Rows.laid_internal_strconv_uint64pow10).toArray
 let h6:=put h5 3 (DK Rows.laid_math_bits_deBruijn32tab).toArray
 let h7:=put h6 4 (DK Rows.laid_math_bits_deBruijn64tab).toArray
 let h8:=put h7 0 (DK Rows.laid_nameplan_record_rules).toArray
 { w0 with heap:=h8 }
theorem PK(os:Os)(args:Array Value):laidMet prog PJ ((wG os).forCall (λ_ _=>0) ⟨#[],args,[]⟩).memory:=
 laidMet_of_run' 8 (by kernel_rfl) (by kernel_rfl)
end
end Go.Proofs.YtfnopgdcaanaiaaGreatDoor
