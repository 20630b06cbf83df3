/- Parts of the proof. No condition. -/
import Derived.Test.YtfnopgdcaanaiaaGreatDoorT32
import Derived.Test.YtfnopgdcaanaiaaGreatDoorT34
import Derived.Test.YtfnopgdcaanaiaaGreatDoorT35
set_option linter.all false
set_option maxRecDepth 100000
set_option maxHeartbeats 8000000
namespace Go.Proofs.YtfnopgdcaanaiaaGreatDoor
open Go.Proofs.Tryz
section
def Np.j8(d:Int)(x:Np.Held):List Np.Span:=Np.ot x.spans (Np.ew x.signed d 20000000)
def Np.lE(d:Int)(x:Np.Held):List Np.Held:=if Np.j8 d x = [] then [] else [{ x with spans:=Np.j8 d x }]
def Np.gC(d:Int)(l:List Np.Held):List Np.Held:=l.flatMap (Np.lE d)
noncomputable def Np.gapsX(h:Np.Hist):Int×List Np.Held:=((Np.mo h).1,Np.gC h.drift (Np.mo h).2)
theorem Np.Re(d:Int)(l:List Np.Held)(x:Np.Held):Np.gC d (l ++ [x])=Np.gC d l++Np.lE d x:=by unfold Np.gC;rw[List.flatMap_append];simp
theorem Np.Iw(d:Int):∀ l:List Np.Held,(Np.gC d l).length<=l.length
 | []=>bQ _
 | x::l=>by
   have h1:=Np.Iw d l;have h2:(Np.lE d x).length<=1:=by unfold Np.lE;split <;> simp
   unfold Np.gC at h1 |-;rw[List.flatMap_cons,List.length_append,List.length_cons];omega
theorem Np.YR{z:Np.Zone}(v:Np.VZone z){x:Np.Signed}(hx:x∈z.sets):Np.plain x=true:=by
 obtain⟨h1,h2⟩:=v.form x hx;unfold Np.plain;rw[(Np.rG v).2 x hx,uQ h1,Np.VX (λg hg i y hy=>?_)]
 ·rfl
 ·have h3:=h2 i y hy;exact⟨(h3.same g hg).1,(h3.same g hg).2,h3.win.1,h3.win.2.1,h3.win.2.2⟩
theorem Np.K7{s:Np.Signed}(h:Np.plain s=true):s.set.data.length<=8/\s.sigs.length<=6:=by
 unfold Np.plain at h;simp only[Bool.and_eq_true,Qa] at h;obtain⟨⟨h1,h2⟩,_⟩:=h;unfold Np.bO at h1;simp only[Bool.and_eq_true,Qa] at h1;exact⟨by omega,h2⟩
structure Np.GapOk(x:Np.Held):Prop where
 plain:Np.plain x.signed=true
 valid:Np.js x.spans=true
 few:x.spans.length<=9000
 fresh:x.fresh.length<=9000
theorem Np.C1{h:Np.Hist}(v:Np.VHist h)(u:Np.Use h){x:Np.Held}(hx:x∈Np.iI h):Np.GapOk x:=by
 obtain⟨y,hy,rfl⟩:=List.mem_map.1 hx;obtain⟨z,_,hz⟩:=Np.AZ.1 hy;have hp:=u.pairs z;obtain⟨_,_,_,⟨c,hc,_,h1⟩,_⟩:=Np.rp v.full hz;have h2:=Np.YR (v.each c hc).zone h1;have h3:y.fresh.length<=9000:=by
  unfold Np.pub Np.pg at hz;obtain⟨s,_,rfl⟩:=List.mem_map.1 hz;exact yQ (rq _) (yQ (BB _ _) (by omega))
 refine⟨h2,Np.XZ v (by omega) hz v.drift ?_,?_,h3⟩
 ·obtain⟨_,_,_,h4,_⟩:=Np.tN ((Np.rG (v.each c hc).zone).2 _ h1);omega
 ·show (Np.fo y h.drift).length<=9000;unfold Np.fo;refine yQ (rq _) ?_;rw[List.length_map];exact h3
theorem Np.Fa{s:Np.Signed}{d:Int}(hp:Np.plain s=true)(hd:0<=d/\d<=1000):Np.fR s d 20000000=0:=by unfold Np.fR;rw[Qb ⟨hd.1,hd.2,by omega,by omega,hp⟩]
theorem Np.xG{s:Np.Signed}{d:Int}(hp:Np.plain s=true)(hd:0<=d/\d<=1000):Np.js (Np.ew s d 20000000)=true/\(Np.ew s d 20000000).length<=1:=by
 rw[Np.LY (Np.Fa hp hd)];unfold Np.Fq;split
 ·exact⟨rfl,by simp⟩
 ·rename_i h;refine⟨?_,by simp⟩;unfold Np.js;have hb:0<=Np.l6 s d/\Np.l7 s d 20000000<=20000000:=by
   have hw:=Np.VZ hp;unfold Np.l6 Np.l7
   cases hs:s.sigs with
   | nil=>dsimp only;omega
   | cons g r=>
    have:=hw g (by rw[hs];rfl)
    dsimp only;omega
  have:Np.fP none ⟨Np.l6 s d,Np.l7 s d 20000000⟩=true:=by
   simp[Np.fP];omega
  unfold Np.ix Np.ix;rw[this];rfl
theorem Np.Rb{d:Int}{x:Np.Held}(k:Np.GapOk x)(hd:0<=d/\d<=1000):(Np.j8 d x).length<=18000:=by
 obtain⟨h1,h2⟩:=Np.xG (d:=d) k.plain hd;unfold Np.j8;rw[Np.Xx (Np.mX k.valid) (Np.mX h1)];have k1:=Np.Hq (Np.pM (Np.ew x.signed d 20000000)) x.spans [];have k2:=Np.Vw (Np.ew x.signed d 20000000);have k3:x.spans.length * (Np.pM (Np.ew x.signed d 20000000)).length<=9000 * 2:=Nat.mul_le_mul k.few (by omega);unfold Np.Hp;simp only[List.length_nil] at k1;omega
theorem Np.tF{l:List Np.Span}{t:Int} : Np.xF l t=true↔Np.inS l t:=by
 unfold Np.xF Np.inS;rw[List.any_eq_true];constructor
 ·rintro⟨s,hs,h⟩;simp only[Bool.and_eq_true,Qa] at h;exact⟨s,hs,h⟩
 ·rintro⟨s,hs,h⟩;exact⟨s,hs,by simp only[Bool.and_eq_true,Qa];exact h⟩
theorem Np.PD{l:List Np.Span}(h:Np.ApartS l)(hn:∀ u,¬ Np.inS l u):l = []:=by
 cases l with
 | nil=>rfl
 | cons s r=>exact absurd ⟨s,by simp,Int.le_refl _,h.full s (by simp)⟩ (hn s.frm)
theorem Np.Iv{d:Int}{x:Np.Held}(k:Np.GapOk x)(hd:0<=d/\d<=1000)(u:Int):Np.inS (Np.j8 d x) u↔Np.inS x.spans u/\¬ Np.inS (Np.ew x.signed d 20000000) u:=
 (Np.Fc (Np.mX k.valid) (Np.mX (Np.xG k.plain hd).1)).2.2 u
theorem Np.Rc{d:Int}{x:Np.Held}(k:Np.GapOk x)(hd:0<=d/\d<=1000):Np.ApartS (Np.j8 d x):=
 (Np.Fc (Np.mX k.valid) (Np.mX (Np.xG k.plain hd).1)).2.1
theorem Np.Xl{x:Np.Held}(k:Np.GapOk x){u:Int}(h:Np.inS x.spans u):0<=u/\u<20000000:=by
 obtain⟨s,hs,h1,h2⟩:=h;have h3:=(Np.mX k.valid).lo s hs;have h4:=(Np.mX k.valid).hi s hs;omega
theorem Np.Iu{d t:Int}{x:Np.Held}(k:Np.GapOk x)(hd:0<=d/\d<=1000)(ht:Np.xF x.spans t=true){g:Np.Sig}(hg:x.signed.sigs[0]?=some g):Np.xF (Np.j8 d x) t=!(decide (g.frm<=t - d)&&decide (t+d<=g.til)):=by
 have h1:=Np.tF.1 ht;have h2:=Np.Xl k h1;have h3:Np.inS (Np.ew x.signed d 20000000) t↔(g.frm<=t - d/\t+d<=g.til):=by
  rw[Np.LY (Np.Fa k.plain hd)];unfold Np.Fq Np.l7 Np.l6
  cases hs:x.signed.sigs with
  | nil=>rw[hs] at hg;cases hg
  | cons g' r=>
   rw[hs] at hg
   cases hg
   dsimp only;by_cases hc:min 20000000 (g.til - d+1)<=g.frm+d
   ·rw[Qb hc];exact⟨λh=>absurd h (Np.gJ t),λh=>by omega⟩
   ·rw[Qc hc,Np.xb];dsimp only;omega
 rw[Bool.eq_iff_iff,Np.tF,Np.Iv k hd,h3];simp only[Bool.not_eq_true',Bool.and_eq_false_iff,decide_eq_false_iff_not];constructor
 ·rintro⟨_,h⟩;omega
 ·intro h;exact⟨h1,by omega⟩
theorem Np.Iy{d:Int}{l:List Np.Held}{y:Np.Held} : y∈Np.gC d l↔∃ z∈l,Np.j8 d z≠[]/\y = { z with spans:=Np.j8 d z }:=by
 unfold Np.gC;rw[List.mem_flatMap];constructor
 ·rintro⟨z,hz,hy⟩;unfold Np.lE at hy;split at hy
  ·cases hy
  ·rename_i hn;rw[List.mem_singleton] at hy;exact⟨z,hz,hn,hy⟩
 ·rintro⟨z,hz,hn,rfl⟩;exact⟨z,hz,by unfold Np.lE;rw[Qc hn];simp⟩
theorem Np.LA{lf:Int}(h0:0<=lf)(h1:lf<=100000):Np.bO ⟨[120],2,lf,[⟨[97],0,0⟩]⟩=true:=by
 have e:Np.bO ⟨[120],2,0,[⟨[97],0,0⟩]⟩=true:=by kernel_rfl
 simp only[Np.bO,Bool.and_eq_true,Qa] at e |-;exact⟨⟨⟨⟨⟨⟨e.1.1.1.1.1.1,e.1.1.1.1.1.2⟩,h0,h1⟩,e.1.1.1.2⟩,e.1.1.2⟩,e.1.2⟩,e.2⟩
theorem Np.LB{lf:Int}(h0:0<=lf)(h1:lf<=100000):Np.bO ⟨[120],4,lf,[⟨[],1,0⟩]⟩=true:=by
 have e:Np.bO ⟨[120],4,0,[⟨[],1,0⟩]⟩=true:=by kernel_rfl
 simp only[Np.bO,Bool.and_eq_true,Qa] at e |-;exact⟨⟨⟨⟨⟨⟨e.1.1.1.1.1.1,e.1.1.1.1.1.2⟩,h0,h1⟩,e.1.1.1.2⟩,e.1.1.2⟩,e.1.2⟩,e.2⟩
theorem Np.LC{lf:Int}(h0:0<=lf)(h1:lf<=100000):Np.bO ⟨[120],7,lf,[⟨[],1,1⟩]⟩=true:=by
 have e:Np.bO ⟨[120],7,0,[⟨[],1,1⟩]⟩=true:=by kernel_rfl
 simp only[Np.bO,Bool.and_eq_true,Qa] at e |-;exact⟨⟨⟨⟨⟨⟨e.1.1.1.1.1.1,e.1.1.1.1.1.2⟩,h0,h1⟩,e.1.1.1.2⟩,e.1.1.2⟩,e.1.2⟩,e.2⟩
theorem Np.Mo:Np.aG [120]=true:=by kernel_rfl
theorem Np.Mr:Np.eU [120]=false:=by kernel_rfl
theorem Np.Mp:Np.dm [120] [120]=true:=by kernel_rfl
theorem Np.La{lf:Int}(h0:0<=lf)(h1:lf<=100000)(g0 g1 g2:List Np.Sig)(f0:Np.fF [120] g0)(f1:Np.fF [120] g1)(f2:Np.fF [120] g2) :
 Np.VZone ⟨[120],[⟨⟨[120],2,lf,[⟨[97],0,0⟩]⟩,g0⟩,⟨⟨[120],4,lf,[⟨[],1,0⟩]⟩,g1⟩,⟨⟨[120],7,lf,[⟨[],1,1⟩]⟩,g2⟩]⟩:=by
 have zN:Np.gB ⟨[120],[⟨⟨[120],2,lf,[⟨[97],0,0⟩]⟩,g0⟩,⟨⟨[120],4,lf,[⟨[],1,0⟩]⟩,g1⟩,⟨⟨[120],7,lf,[⟨[],1,1⟩]⟩,g2⟩]⟩ = [[],[],[]]:=by
  simp[Np.gB,Np.mp,Np.dy,Np.dT]
 refine⟨?_,by simp,⟨_,List.Mem.tail _ (List.Mem.head _),rfl,rfl⟩,⟨_,List.Mem.head _,rfl,rfl⟩,?_,?_,?_,?_,?_,?_⟩
 ·simp[Np.g8,Np.jD,Np.Mo,Np.Mr,Np.Mp,Np.LA h0 h1,Np.LB h0 h1,Np.LC h0 h1,Np.iJ,Np.cL]
 ·intro x hx;simp at hx;rcases hx with rfl | rfl | rfl <;> simp[Np.lD]
 ·intro i hi;simp at hi;rcases (by omega:i=0\/i=1) with rfl | rfl <;> simp
 ·intro i hi;simp at hi;rcases (by omega:i=0\/i=1) with rfl | rfl <;> simp
 ·intro i x b hx hb;rw[zN] at hb;have hi:=(cQ.1 hb).1;simp at hi;rcases (by omega:i=0\/i=1\/i=2) with rfl | rfl | rfl <;> (simp at hx hb;subst hx;subst hb;simp[Np.lk])
 ·intro i x b hx hb hne;rw[zN] at hb;have hi:=(cQ.1 hb).1;simp at hi;rcases (by omega:i=0\/i=1\/i=2) with rfl | rfl | rfl <;> (simp at hb;first | exact absurd hb hne | exact absurd hb.symm hne)
 ·intro x hx;simp at hx;rcases hx with rfl | rfl | rfl <;> assumption
theorem Np.Dm(z:List UInt8):Np.fF z []:=⟨by simp,λi g hg=>by simp at hg⟩
theorem Np.Dn{z:List UInt8}{f u s:Int}(h:0<=f/\f<=u/\u<=20000000):Np.fF z [⟨z,1,1,f,u,s⟩]:=⟨by simp,λi g hg=>by
 match i,hg with
 | 0,hg=>
  simp at hg;subst hg;exact⟨rfl,by simp,by simp,h,λa ha=>by simp at ha;subst ha;exact⟨rfl,rfl⟩,λp _ h=>absurd h (by omega)⟩
 | i+1,hg=>simp at hg⟩
theorem Np.V4{lf:Int}(h0:0<=lf)(h1:lf<=100000):Np.VZone ⟨[120],Np.gk lf⟩:=Np.La h0 h1 [] [] [] (Np.Dm _) (Np.Dm _) (Np.Dm _)
theorem Np.V5{len d lf t:Int}(h0:0<=lf)(h1:lf<=100000)(hw:0<=t - d/\t - d<=t+len/\t+len<=20000000):Np.VZone ⟨[120],Np.lZ len d lf t⟩:=Np.La h0 h1 _ _ _ (Np.Dn hw) (Np.Dn hw) (Np.Dn hw)
theorem Np.Wb{lf f u:Int}(h0:0<=lf)(h1:lf<=100000)(hw:Np.pT f u=true):∀ x∈Np.gk lf,Np.oq x.set xB xB 1 1 f u=true:=λx hx=>by
 have hu:Np.under xB xB=true:=by rw[Fg];exact Np.Mp
 have hn:Np.aG xB.data.toList=true:=Np.Mo;have ED:Np.eU xB.data.toList=false:=Np.Mr;simp only[Np.gk,List.mem_cons,Qh,or_false] at hx;rcases hx with rfl | rfl | rfl
 ·simp[Np.oq,hw,hu,hn,ED,Np.oj,Np.LA h0 h1,Np.rE]
 ·simp[Np.oq,hw,hu,hn,ED,Np.oj,Np.LB h0 h1,Np.rE]
 ·simp[Np.oq,hw,hu,hn,ED,Np.oj,Np.LC h0 h1,Np.rE]
structure Np.PlanOk(ts:List Int)(en len d lf:Int):Prop where
 few:ts.length<=20
 d0:0<=d
 d1:d<=1000
 l0:1<=len
 l1:len<=10000000
 f0:0<=lf
 f1:lf<=100000
 e0:1<=en
 e1:en<=10000000
 low:∀ i,i<ts.length->d<=ts.getD i 0
 high:∀ i,i<ts.length->ts.getD i 0<en
 up:∀ i j,i<j->j<ts.length->ts.getD i 0<ts.getD j 0
theorem Np.PlanOk.until{ts:List Int}{en len d lf:Int}(k:Np.PlanOk ts en len d lf){i:Nat}(hi:i<ts.length):ts.getD i 0<Np.gl ts en i/\Np.gl ts en i<=en:=by
 unfold Np.gl;split
 ·rename_i h;exact⟨k.up i (i+1) (by omega) h,by have:=k.high (i+1) h;omega⟩
 ·exact⟨k.high i hi,Int.le_refl _⟩
theorem Np.PlanOk.win{ts:List Int}{en len d lf:Int}(k:Np.PlanOk ts en len d lf){i:Nat}(hi:i<ts.length):0<=ts.getD i 0 - d/\ts.getD i 0 - d<=ts.getD i 0+len/\ts.getD i 0+len<=20000000:=by
 have h1:=k.low i hi;have h2:=k.high i hi
 have:=k.d0;have:=k.l0;have:=k.l1;have:=k.e1
 omega
theorem Np.tr{ts:List Int}{en len d lf:Int}{n:Nat}{c:Np.Copy} : c∈Np.km ts en len d lf n↔∃ i,i<n/\c=Np.mS ts en len d lf i:=by
 simp only[Np.km,List.mem_map,List.mem_range];exact⟨λ⟨i,h,e⟩=>⟨i,h,e.symm⟩,λ⟨i,h,e⟩=>⟨i,h,e.symm⟩⟩
theorem Np.PlanOk.valid{ts:List Int}{en len d lf:Int}(k:Np.PlanOk ts en len d lf):Np.VHist (Np.eV ts en len d lf):=by
 refine⟨⟨k.e0,k.e1⟩,⟨k.d0,k.d1⟩,⟨by simp[Np.eV],λh hh=>?_,by simp[Np.eV]⟩,⟨by show Np.bO ⟨[46],6,0,[⟨[],1,1⟩]⟩=true;kernel_rfl,rfl,rfl,by simp[Np.eV],λn hn=>?_⟩,λc hc=>?_,?_⟩
 ·simp[Np.eV] at hh;subst hh;exact⟨by kernel_rfl,by kernel_rfl,by simp,by simp⟩
 ·simp[Np.eV] at hn;subst hn;omega
 ·obtain⟨i,hi,rfl⟩:=Np.tr.1 hc;have hu:=k.until hi;have hw:=k.win hi;have hl:=k.low i hi;have hd:=k.d0;exact⟨by simp[Np.eV,Np.mS],⟨by show 0<=ts.getD i 0;omega,hu.1,hu.2⟩,Np.V5 k.f0 k.f1 hw⟩
 ·show (Np.km ts en len d lf ts.length).Pairwise _;unfold Np.km;rw[List.pairwise_map];refine List.Pairwise.imp_of_mem ?_ List.pairwise_lt_range;rintro i j hi hj ct ⟨_,_,h1,h2⟩;rw[List.mem_range] at hi hj;have h3:ts.getD j 0<Np.gl ts en i:=h2;unfold Np.gl at h3;rw[Qb (by omega)] at h3;rcases (by omega:i+1=j\/i+1<j) with e | e
  ·rw[e] at h3;omega
  ·have:=k.up (i+1) j e hj;omega
theorem Np.PlanOk.use{ts:List Int}{en len d lf:Int}(k:Np.PlanOk ts en len d lf):Np.Use (Np.eV ts en len d lf):=by
 refine⟨by show (Np.km ts en len d lf ts.length).length<=21;rw[Np.xp];have:=k.few;omega,by simp[Np.eV],by simp[Np.eV],by simp[Np.eV],λc hc=>?_⟩;obtain⟨i,hi,rfl⟩:=Np.tr.1 hc;refine⟨by simp[Np.mS,Np.lZ,Np.gk],λx hx=>?_⟩;simp only[Np.mS,Np.lZ,List.mem_map] at hx;obtain⟨y,hy,rfl⟩:=hx;simp[Np.gk] at hy;rcases hy with rfl | rfl | rfl <;> simp[Np.l5,Np.oj]
theorem Np.zg{bs:List Int} : ∀ {d:Int},0<=d/\d<18446744073709551616->0<=Np.dig d bs/\Np.dig d bs<18446744073709551616:=by
 induction bs with
 | nil=>exact λh=>h
 | cons b bs ih=>
  intro d _;have h:=ih (d:=IntKind.u64.wrap (bits .xor .u64 d (IntKind.u64.wrap b) * 1099511628211)) (by rw[IntKind.wrap_u64];omega);exact h
theorem Np.PlanOk.sums{ts:List Int}{en len d lf:Int} : Np.kC (Np.eV ts en len d lf):=λc hc s hs g hg=>by
 obtain⟨i,hi,rfl⟩:=Np.tr.1 hc;simp only[Np.mS,Np.lZ,List.mem_map] at hs;obtain⟨y,hy,rfl⟩:=hs;simp[Np.l5] at hg;subst hg;exact Np.zg (Np.zg (Np.zg (Np.zg (by omega))))
theorem Np.xq{len d lf t:Int}{s:Np.Signed}(h:s∈Np.lZ len d lf t):s.set.life=lf/\∃ x,s.sigs = [⟨[120],1,1,t - d,t+len,x⟩]:=by
 simp only[Np.lZ,List.mem_map] at h;obtain⟨y,hy,rfl⟩:=h;simp[Np.gk] at hy;rcases hy with rfl | rfl | rfl <;> exact⟨rfl,_,rfl⟩
theorem Np.V7{ts:List Int}{en len d lf:Int}(k:Np.PlanOk ts en len d lf){zn:List UInt8}{x:Np.Held}(hx:x∈Np.pub (Np.eV ts en len d lf).copies zn){t0:Int}(ht:x.signed∈Np.lZ len d lf t0) :
 ∀ s∈x.fresh,s.frm<s.til/\t0<=s.frm/\∃ j,j<ts.length/\ts.getD j 0=t0/\s.til<=Np.gl ts en j:=λs hs=>by
 obtain⟨_,_,eE,_,hin⟩:=Np.rp k.valid.full hx;have hf:=eE.full s hs;obtain⟨_,x0,iT⟩:=Np.xq ht;have hc:∀ t,s.frm<=t->t<s.til->∃ j,j<ts.length/\ts.getD j 0=t0/\t0<=t/\t<Np.gl ts en j:=λt h1 h2=>by
  obtain⟨c,hc,_,hcs,h3,h4⟩:=(hin t).1 ⟨s,hs,h1,h2⟩;obtain⟨j,hj,rfl⟩:=Np.tr.1 hc;obtain⟨_,y0,J4⟩:=Np.xq hcs;rw[iT] at J4;simp at J4;have e:ts.getD j 0=t0:=by rw[List.getD_eq_getElem?_getD];omega
  have h3':ts.getD j 0<=t:=h3;exact⟨j,hj,e,by omega,h4⟩
 obtain⟨_,_,_,h1,_⟩:=hc s.frm (Int.le_refl _) hf;obtain⟨j,hj,e,_,h2⟩:=hc (s.til - 1) (by omega) (by omega);exact⟨hf,h1,j,hj,e,by omega⟩
theorem Np.K9{x:Np.Signed}{len d lf t til:Int}(h:x∈Np.lZ len d lf t):Np.gP x d til=min (til - 1+max lf 1+2 * d) (t+len+d+1):=by
 obtain⟨hl,y,hs⟩:=Np.xq h;unfold Np.gP;rw[hs,hl]
theorem Np.V9{ts:List Int}{en len d lf S:Int}(k:Np.PlanOk ts en len d lf)(hS:len=S+max lf 1+3 * d - 2)(h:∀ i,i<ts.length->Np.gl ts en i<=ts.getD i 0+S):Np.gC d (Np.iI (Np.eV ts en len d lf)) = []:=by
 refine List.eq_nil_iff_forall_not_mem.2 λy hy=>?_;obtain⟨z,hz,hne,-⟩:=Np.Iy.1 hy;refine hne ?_;have hk:=Np.C1 k.valid k.use hz;have hd:0<=d/\d<=1000:=⟨k.d0,k.d1⟩;refine Np.PD (Np.Rc hk hd) λu hu=>?_;have hin:=((Np.Iv hk hd u).1 hu).1;have h1:Np.xF (Np.j8 d z) u=true:=Np.tF.2 hu;obtain⟨x,hx,rfl⟩:=List.mem_map.1 hz;obtain⟨zn,_,wT⟩:=Np.AZ.1 hx;obtain⟨_,_,eE,⟨c,hc,_,hcs⟩,_⟩:=Np.rp k.valid.full wT;obtain⟨i,hi,rfl⟩:=Np.tr.1 hc;obtain⟨_,s0,iT⟩:=Np.xq hcs;have h2:=Np.Iu hk hd (Np.tF.2 hin) (g:=⟨[120],1,1,ts.getD i 0 - d,ts.getD i 0+len,s0⟩) (by show x.signed.sigs[0]?=_;rw[iT];rfl);rw[h1] at h2;have SN:Np.inS (Np.fo x d) u:=hin;obtain⟨s,hs,h3,h4⟩:=(Np.xd eE.full).1 SN;obtain⟨hsf,h5,j,hj,e,h6⟩:=Np.V7 k wT hcs s hs;have h7:=h j hj;rw[e] at h7;rw[Np.K9 hcs] at h4;have vr:=k.d0;have h8:decide (ts.getD i 0 - d<=u - d)=true:=adQ;have h9:decide (u+d<=ts.getD i 0+len)=true:=adQ;dsimp only at h2;rw[h8,h9] at h2;simp at h2
theorem Np.V8{ts:List Int}{en len d lf S:Int}(k:Np.PlanOk ts en len d lf)(hS:len=S+max lf 1+3 * d - 2)(Zs:1<=S)(ke:1<=d){i:Nat}(hi:i<ts.length)(h:ts.getD i 0+S+1<=Np.gl ts en i):Np.gC d (Np.iI (Np.eV ts en len d lf))≠[]:=λsR=>by
 have hd:0<=d/\d<=1000:=⟨k.d0,k.d1⟩;have zT:Np.mS ts en len d lf i∈(Np.eV ts en len d lf).copies:=Np.tr.2 ⟨i,hi,rfl⟩;have ag:Np.l5 xB (ts.getD i 0 - d) (ts.getD i 0+len) (Np.oj 2 lf ⟨[97],0,0⟩)∈Np.lZ len d lf (ts.getD i 0):=List.mem_map.2 ⟨_,List.Mem.head _,rfl⟩;obtain⟨x,wT,jL⟩:=Np.Wt (l:=(Np.eV ts en len d lf).copies) (zone:=[120]) ⟨_,zT,rfl,ag⟩;rw[<-jL] at ag;obtain⟨_,_,eE,_,hin⟩:=Np.rp k.valid.full wT;have ba : { x with spans:=Np.fo x d }∈Np.iI (Np.eV ts en len d lf):=List.mem_map.2 ⟨x,Np.AZ.2 ⟨[120],Np.xg.2 ⟨_,zT,rfl⟩,wT⟩,rfl⟩;have hk:=Np.C1 k.valid k.use ba;obtain⟨_,s0,iT⟩:=Np.xq ag;have hu:=k.until hi;have TG:Np.inS (Np.fo x d) (ts.getD i 0+len - d+1):=by
  by_cases hb:Np.gl ts en i<=ts.getD i 0+len - d+1
  ·obtain⟨s,hs,h1,h2⟩:=(hin (Np.gl ts en i - 1)).2 ⟨_,zT,rfl,ag,by show ts.getD i 0<=_;omega,by show Np.gl ts en i - 1<Np.gl ts en i;omega⟩;refine (Np.xd eE.full).2 ⟨s,hs,by omega,.inr ?_⟩;rw[Np.K9 ag];omega
  ·exact Np.Uf eE.full ((hin _).2 ⟨_,zT,rfl,ag,by show ts.getD i 0<=_;omega,by show _<Np.gl ts en i;omega⟩)
 have h2:=Np.Iu hk hd (Np.tF.2 TG) (g:=⟨[120],1,1,ts.getD i 0 - d,ts.getD i 0+len,s0⟩) (by show x.signed.sigs[0]?=_;rw[iT];rfl);have h9:decide (ts.getD i 0+len - d+1+d<=ts.getD i 0+len)=false:=acK;dsimp only at h2;rw[h9,Bool.and_false] at h2;have h3:=Np.tF.1 h2;have hne:Np.j8 d { x with spans:=Np.fo x d }≠[]:=λe=>by rw[e] at h3;obtain⟨_,hm,_⟩:=h3;cases hm
 have:=Np.Iy.2 ⟨_,ba,hne,rfl⟩
 rw[sR] at this
 cases this
end
section
open Go.RowKit Go.Shelf
theorem Np.XO{b s l d f:Int}(h:Np.fm b s l d f=0):Np.rC b s l d f/\1<=Np.iW l d f/\Np.times b s l d f=Np.dl b s (Np.iW l d f):=by
 have h2:Np.times b s l d f=Np.dl b s (Np.iW l d f):=by unfold Np.times;rw[Qb h]
 unfold Np.fm at h;split at h
 ·rename_i ha;split at h
  ·cases h
  ·rename_i hb;exact⟨ha,by omega,h2⟩
 ·cases h
theorem Np.XN{b s l d f:Int}(h:Np.fm b s l d f≠0):Np.times b s l d f = []:=by unfold Np.times;rw[Qc h]
theorem Np.XL(b s k:Int){i:Nat}(hi:i<(Np.dl b s k).length):(Np.dl b s k).getD i 0=b+i * k:=by
 rw[List.getD_eq_getElem?_getD,aQ hi];simp[Np.dl]
structure Np.Right(ts:List Int)(b s l d f k:Int):Prop where
 arg:Np.rC b s l d f
 step:k=l - max f 1 - 3 * d+2
 pos:1<=k
 at':∀ i,i<ts.length->ts.getD i 0=b+i * k
 low:∀ i,i<ts.length->b+i * k<s
 next:∀ i,i+1=ts.length->s<=b+i * k+k
 ne:0<ts.length
theorem Np.WH{b s l d f:Int}(h:Np.fm b s l d f=0):Np.Right (Np.times b s l d f) b s l d f (Np.iW l d f):=by
 obtain⟨h1,h2,h3⟩:=Np.XO h;rw[h3];refine⟨h1,rfl,h2,λi hi=>Np.XL b s _ hi,λi hi=>(tJ b s _ h2 i).1 hi,λi hi=>?_,?_⟩
 ·have h4:=mt (tJ b s _ h2 (i+1)).2 (by omega);have e:((i+1:Nat):Int) * Np.iW l d f=i * Np.iW l d f+Np.iW l d f:=by rw[Int.natCast_succ,Int.add_mul,Int.one_mul]
  rw[e] at h4;omega
 ·refine (tJ b s _ h2 0).2 ?_
  have:=h1.2.2.2.2.2.1
  simp;omega
theorem Np.Right.mono{ts:List Int}{b s l d f k:Int}(r:Np.Right ts b s l d f k){i j:Nat}(h:i<j):b+i * k+k<=b+j * k:=by
 have h1:((i:Int)+1) * k<=j * k:=Int.mul_le_mul_of_nonneg_right (by omega) (by have:=r.pos;omega);rw[Int.add_mul,Int.one_mul] at h1;omega
theorem Np.Right.ge{ts:List Int}{b s l d f k:Int}(r:Np.Right ts b s l d f k)(i:Nat):b<=b+i * k:=by
 have:=Int.mul_nonneg (a:=(i:Int)) (b:=k) (by omega) (by have:=r.pos;omega)
 omega
theorem Np.Right.plan{ts:List Int}{b s l d f k:Int}(r:Np.Right ts b s l d f k)(h6:ts.length<=6):Np.PlanOk ts s l d f:=by
 obtain⟨a1,a2,a3,a4,a5,a6,a7,a8,a9,a10⟩:=r.arg;refine⟨by omega,a1,a2,a7,a8,a9,a10,a3,a4,λi hi=>?_,λi hi=>?_,λi j ct hj=>?_⟩
 ·rw[r.at' i hi];have:=r.ge i;omega
 ·rw[r.at' i hi];exact r.low i hi
 ·rw[r.at' i (by omega),r.at' j hj];have:=r.mono ct;have:=r.pos;omega
theorem Np.Right.noGap{ts:List Int}{b s l d f k:Int}(r:Np.Right ts b s l d f k)(h6:ts.length<=6):Np.gC d (Np.iI (Np.eV ts s l d f)) = []:=by
 refine Np.V9 (r.plan h6) (S:=k) (by have:=r.step;omega) λi hi=>?_;rw[r.at' i hi];unfold Np.gl;split
 ·rename_i h;rw[r.at' (i+1) h];have e:((i+1:Nat):Int) * k=i * k+k:=by rw[Int.natCast_succ,Int.add_mul,Int.one_mul]
  rw[e];omega
 ·exact r.next i (by omega)
def Np.oi(ts:List Int)(q:Nat):List Int:=ts.take q ++ [ts.getD q 0+1]
theorem Np.AV{ts:List Int}{q:Nat}(h:q<ts.length):(Np.oi ts q).length=q+1:=by simp[Np.oi];omega
theorem Np.rn{ts:List Int}{q i:Nat}(h:q<ts.length)(hi:i<q+1):(Np.oi ts q).getD i 0=if i=q then ts.getD q 0+1 else ts.getD i 0:=by
 unfold Np.oi;rw[List.getD_eq_getElem?_getD];split
 ·rename_i e;subst e;rw[oQ (by simp;omega)];simp;rw[show i - min i ts.length=0 by omega];simp
 ·rw[List.getElem?_append_left (by simp;omega),List.getElem?_take,Qb (by omega),List.getD_eq_getElem?_getD]
theorem Np.Right.late{ts:List Int}{b s l d f k:Int}(r:Np.Right ts b s l d f k)(h6:ts.length<=6){q:Nat}(hq:q<ts.length)(hs:ts.getD q 0+1<s):Np.PlanOk (Np.oi ts q) s l d f:=by
 obtain⟨a1,a2,a3,a4,a5,a6,a7,a8,a9,a10⟩:=r.arg;have hl:=Np.AV hq;refine⟨by omega,a1,a2,a7,a8,a9,a10,a3,a4,λi hi=>?_,λi hi=>?_,λi j ct hj=>?_⟩
 ·rw[Np.rn hq (by omega)];split
  ·rw[r.at' q hq];have:=r.ge q;omega
  ·rw[r.at' i (by omega)];have:=r.ge i;omega
 ·rw[Np.rn hq (by omega)];split
  ·exact hs
  ·rw[r.at' i (by omega)];exact r.low i (by omega)
 ·rw[Np.rn hq (by omega),Np.rn hq (by omega),Qc (by omega),r.at' i (by omega)]
  have:=r.mono ct;have:=r.pos
  split
  ·rename_i e;subst e;rw[r.at' j hq];omega
  ·rw[r.at' j (by omega)];omega
theorem Np.Right.gap{ts:List Int}{b s l d f k:Int}(r:Np.Right ts b s l d f k)(h6:ts.length<=6){q:Nat}(hq:q<ts.length)(h1:1<=q)(hs:ts.getD q 0+1<s)(hd:1<=d):Np.gC d (Np.iI (Np.eV (Np.oi ts q) s l d f))≠[]:=by
 have hl:=Np.AV hq;refine Np.V8 (r.late h6 hq hs) (S:=k) (i:=q - 1) (by have:=r.step;omega) r.pos hd (by omega) ?_;unfold Np.gl;rw[Qb (by omega),Np.rn hq (by omega),Np.rn hq (by omega),Qc (by omega),Qb (by omega),r.at' (q - 1) (by omega),r.at' q hq];have e:(q:Int) * k=((q - 1:Nat):Int) * k+k:=by
  have:(q:Int)=((q - 1:Nat):Int)+1:=by omega
  rw[this,Int.add_mul,Int.one_mul]
 rw[e];omega
theorem VO{e:TypeId}{base B:Nat}{w:World}{v:Value}{ys:List Int}{n:Nat}(h:aO eK 1 e base B w v ys)(hn:ys.length=n)(h0:0<n):∃ g c cur,v = .slice (some ⟨g,0,none⟩) n c/\n<=c/\base<=g/\g<w.heap.size/\w.heap[g]?=some (.cells cur e (0,0))/\∀ j x,ys[j]?=some x->w.cell? ⟨g,j,none⟩=some (.int .i64 x):=by
 obtain⟨rows,h1,h2,h3⟩:=h;have hl:=aO.rows_len h1 h3;rcases h2.2 with ⟨_,hz⟩ | ⟨g,cap,cur,rfl,hb,hg,ik,_,_,_⟩
 ·omega
 ·refine⟨g,cap,cur,by rw[hn],by omega,hb,(eQ.1 hg).1,hg,λj x hx=>?_⟩;have hj:=(cQ.1 hx).1;obtain⟨h5,h6⟩:=h3 j _ x (aQ (by omega)) hx;have h7:=h2.cells (g:=g) rfl _ _ (uL rows j 0 _ (.int .i64 x) hl (aQ (by omega)) (by rw[show rows[j] = [.int .i64 x] from h6];rfl));have jd:(⟨g,0,none⟩:Addr).add (j * 1+0)=⟨g,j,none⟩:=by unfold Addr.add;split <;> simp_all
  rw[jd] at h7;exact h7
theorem UW{w:World}{g c q:Nat}{ts:List Int}(hq:q<ts.length)(hc:q+1<=c)(hg:g<w.heap.size)(h6:ts.length<=6)(h:∀ j x,(ts.take (q+1))[j]?=some x->w.cell? ⟨g,j,none⟩=some (.int .i64 x)) :
 SlR eK 1 (w.setCell ⟨g,q,none⟩ (.int .i64 (ts.getD q 0+1))) w.heap.size (.slice (some ⟨g,0,none⟩) (q+1) c) (Np.oi ts q):=by
 have hl:=Np.AV hq;refine⟨_,c,by rw[hl],by omega,by omega,λi x hx=>?_⟩;have hi:=(cQ.1 hx).1;have hx':x=(Np.oi ts q).getD i 0:=by rw[List.getD_eq_getElem?_getD,hx];rfl
 rw[Np.rn hq (by omega)] at hx';refine⟨g,0,[.int .i64 x],rfl,hg,rfl,λj v hj=>?_,rfl⟩
 match j,hj with
 | 0,hj=>
  simp at hj;subst hj;rw[show 0+i * 1+0=i by omega];by_cases e:i=q
  ·subst e;rw[Qb rfl] at hx';rw[hx'];have hold:=h i _ (by rw[List.getElem?_take,Qb (by omega)];exact aQ hq);exact World.cell?_setCell_same _ _ _ hold
  ·rw[Qc e] at hx';have hne:(⟨g,q,none⟩:Addr)≠⟨g,i,none⟩:=λe'=>by injection e' with _ e2 _;omega
   refine (xQ (h:=hne) ..).trans (h i x ?_);rw[List.getElem?_take,Qb (by omega),hx',List.getD_eq_getElem?_getD,aQ (by omega)];rfl
 | j+1,hj=>simp at hj
theorem UV{w:World}{A:Option Addr}{n c q:Nat}{ts:List Int}(ty:TypeId)(hq:q<n)(hn:ts.length=n)(h7:n<=100)(hT:SlR eK 1 w w.heap.size (.slice A n c) ts):∃ b o,A=some ⟨b,o,none⟩/\
 ∃ v' w',(Builtin.append_ #[27,27] ty #[.slice (some ⟨w.heap.size,0,none⟩) 0 0,.slice (some ⟨b,o,none⟩) (q+1) c]).run prog (w.alloc (.cells #[] 3)) = .ok v' w'/\aO eK 1 3 w.heap.size w.heap.size w' v' (ts.take (q+1))/\Below w.heap.size w w':=by
 obtain⟨x,hx⟩:∃ x,ts[0]?=some x:=⟨_,aQ (by omega)⟩;obtain⟨b,o,rfl,hb,_⟩:=rl hT hx;refine⟨b,o,rfl,?_⟩;obtain⟨i0,hi,bd,aK,aC⟩:=info_parts Tryz.infoCloneInt;have ho:aO (α:=Int) eK 1 3 w.heap.size w.heap.size (w.alloc (.cells #[] 3)) (.slice (some ⟨w.heap.size,0,none⟩) 0 0) []:=aO.empty w (bQ _);obtain⟨rows0,Ru,Rv,_⟩:=ho;have jj:rows0 = []:=rQ (by simpa using Ru);subst jj;have eO:Below w.heap.size w (w.alloc (.cells #[] 3)):=(vQ _ _).alloc (bQ _) _;have hlen:(ts.take (q+1)).length=q+1:=by rw[List.length_take];omega
 obtain⟨v',w',hr,r1,r2,_,_⟩:=run_append_own_at (P:=prog) (w.alloc (.cells #[] 3)) w.heap.size 27 ty 3 i0 (.int .i64 0) 1 8 underlying27 hi bd aK aC rfl (by decide) (.slice (some ⟨w.heap.size,0,none⟩) 0 0) 0 [] Rv ⟨b,o,none⟩ (q+1) c ((ts.take (q+1)).map (.int .i64)) (by rw[List.length_map,hlen,Nat.mul_one]) (λj v hj=>by
  rw[show (⟨b,o,none⟩:Addr).add j=⟨b,o+j,none⟩ by cases j <;> simp[Addr.add]];rw[List.getElem?_map,Option.map_eq_some_iff] at hj;obtain⟨y,hy,rfl⟩:=hj;rw[List.getElem?_take] at hy;split at hy
  ·obtain⟨b',o',e,hb',hc'⟩:=rl hT hy
   cases e
   exact (eO.cell (p:=⟨b,o+j,none⟩) hb').trans hc'
  ·cases hy) (λu hu=>by rw[List.mem_map] at hu;obtain⟨_,_,rfl⟩:=hu;rfl) (by simp[maxLen];omega) (by simp;omega) eO.size
 have hown:w.heap.size<=w.heap.size:=bQ _;have aV:Below w.heap.size (w.alloc (.cells #[] 3)) w':=(vQ _ _).grown r2 eO.size (λk hk=>by cases hk;exact bQ _);refine⟨v',w',hr,⟨(ts.take (q+1)).map λx=>[.int .i64 x],by simp,?_,λi r x h1 h2=>?_⟩,eO.trans aV⟩
 ·rw[hlen];have e:((ts.take (q+1)).map λx=>[Value.int .i64 x]).flatten = []++(ts.take (q+1)).map (.int .i64):=by
   rw[List.nil_append]
   induction ts.take (q+1) with
   | nil=>rfl
   | cons a l ih=>simpa using ih
  rw[e];simpa using r1
 ·rw[List.getElem?_map,h2] at h1
  cases h1
  exact⟨rfl,rfl⟩
end
end Go.Proofs.YtfnopgdcaanaiaaGreatDoor
