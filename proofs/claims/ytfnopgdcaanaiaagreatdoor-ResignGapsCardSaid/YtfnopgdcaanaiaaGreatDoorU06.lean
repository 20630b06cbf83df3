/- Parts of the proof. No condition. -/
import Derived.Test.YtfnopgdcaanaiaaGreatDoorU02
import Derived.Test.YtfnopgdcaanaiaaGreatDoorU03
import Derived.Test.YtfnopgdcaanaiaaGreatDoorU04
import Derived.Test.YtfnopgdcaanaiaaGreatDoorU05
set_option linter.all false
set_option maxRecDepth 100000
set_option maxHeartbeats 8000000
namespace Go.Proofs.YtfnopgdcaanaiaaGreatDoor
open Go.Proofs.Tryz
section
open Go.RowKit
theorem Ym{a b:Bool}(h:a=b):Ending.returned (.tuple #[.bool a,.int .i64 0]) = .returned (.tuple #[.bool b,.int .i64 0]):=by rw[h]
def Np.vY(s z:ByteArray):Bool:=decide (z.size<=s.size)&&((s.extract (s.size - z.size) s.size).toList == z.toList)
def Np.under(s z:ByteArray):Bool:=(s.toList == z.toList)||(z.toList == [46])||(decide (z.size<s.size)&&Np.vY s z&&((s.data.toList[s.size - z.size - 1]?).map UInt8.toNat == some 46))
theorem Y8(s z:ByteArray)(h:z.size<=s.size):Np.vY s z=(s.data.toList.drop (s.data.toList.length - z.data.toList.length) == z.data.toList):=by
 unfold Np.vY;rw[uQ h,Bool.true_and,dQ,dQ,BG,aX,aX]
theorem Zs(s z:ByteArray):Np.under s z=Np.aZ s.data.toList z.data.toList:=by
 unfold Np.under Np.aZ;rw[dQ,dQ,aX,aX];congr 1;by_cases h:z.size<s.size
 ·rw[Y8 s z (by omega),aX,aX,uQ h];congr 1;have e:s.data.toList[s.size - z.size - 1]?=some (s[s.size - z.size - 1]'(by omega)):=uN s _ (by omega);rw[e];simp only[Option.map_some];rw[Bool.eq_iff_iff];simp only[beq_iff_eq,Option.some.injEq];constructor
  ·intro h;apply UInt8.toNat_inj.1;rw[h];rfl
  ·intro h;rw[h];rfl
 ·rw[tQ h];rfl
theorem Tp(s z:ByteArray)(hs:s.size<=140737488355328)(hz:z.size<=140737488355328)(w:World) :
 Calls prog 320 #[.string s,.string z] w λe w'=>e = .returned (.bool (Np.vY s z))/\w'=w:=by
 go_enter func320,ntmps320;go_wp2_with fail
 all_goals
  go_ret;refine⟨ae ?_,rfl⟩;simp_all [Np.vY] <;> (intros;omega)
theorem To(s z:ByteArray)(hs:s.size<=140737488355328)(hz:z.size<=140737488355328)(w:World) :
 Calls prog 250 #[.string s,.string z] w λe w'=>e = .returned (.bool (Np.vY s z))/\w'=w:=by
 go_enter func250,ntmps250;go_wp2_with (go_at_call 320;refine (Tp s z hs hz _).mono ?_;rintro e w' ⟨rfl,rfl⟩);go_ret;exact⟨rfl,rfl⟩
theorem Hp(s z:ByteArray)(hs:s.size<=140737488355328)(hz:z.size<=140737488355328)(w:World)(v1:Np.aD s.data.toList=true)(v2:Np.aD z.data.toList=true) :
 Calls prog 184 #[.string s,.string z] w (aeJ w.heap.size w (.tuple #[.bool (Np.aZ s.data.toList z.data.toList),.int .i64 0])):=by
 rw[<-Zs];have V1:=jq v1;have V2:=jq v2;clear v1 v2;go_enter func184,ntmps184;go_wp2_with (first
  | (go_at_call 175;have v1:=V1.out;clear V1;refine (valid_any s hs _).mono ?_;rintro e w1 ⟨rfl,hb⟩;rw[v1];clear v1;have ar:=jq hb;clear hb)
  | (go_at_call 175;have v2:=V2.out;clear V2;refine (valid_any z hz _).mono ?_;rintro e w2 ⟨rfl,hb⟩;rw[v2];clear v2;have ai:=jq hb;clear hb)
  | (go_at_call 250;refine (To s z hs hz _).mono ?_;rintro e w3 ⟨rfl,rfl⟩))
 all_goals
  go_ret2;refine⟨Ym ?_,ar.out.trans (ai.out.mono ar.out.size)⟩;simp_all [Np.under,dQ]
 ·rename_i _ h1 h2 h3 _;have e1:(s.data == z.data)=false:=by simpa using h1
  have e2:(z.data.toList == [46])=false:=by simpa using h2
  have e3:s.data[s.size - z.size - 1]?=some s[s.size - z.size - 1]:=pQ (by simp;omega);rw[e1,e2,e3,Bool.eq_iff_iff];simp;omega
 ·intros;omega
theorem OL(s1 s2:ByteArray)(bd:s1.size<=140737488355328)(fU:s2.size<=140737488355328)(t1 t2:Int)(n1:Np.aD s1.data.toList=true)(n2:Np.aD s2.data.toList=true)(w:World) :
 Calls prog 270 #[.string s1,.int .i64 t1,.string s2,.int .i64 t2] w
  λe w'=>e = .returned (.int .i64 (Np.eb (s1.data.toList,t1) (s2.data.toList,t2)))/\Below w.heap.size w w':=by
 have hv:cmpVal s1.data.toList s2.data.toList = .tuple #[.int .i64 (Np.aH s1.data.toList s2.data.toList),.int .i64 0]:=by rw[cmpVal,n1,n2];rfl
 have HV:=jq hv;clear hv n1 n2;by_cases h:s1.data.toList=s2.data.toList
 ·have he:(!s1.toList == s2.toList)=false:=by rw[dQ,dQ,h];simp
  have hc:Np.eb (s1.data.toList,t1) (s2.data.toList,t2)=Np.b7 t1 t2:=by unfold Np.eb;dsimp only;rw[h,Np.xU,Qc (by simp)]
  rw[hc];clear hc h;go_enter func270,ntmps270;go_wp2_with (go_at_call 123;refine (xS _ _ _).mono ?_;rintro e w' ⟨rfl,rfl⟩);go_ret;exact⟨rfl,vQ _ _⟩
 ·have he:(!s1.toList == s2.toList)=true:=by rw[dQ,dQ];simpa using h
  have hc:Np.eb (s1.data.toList,t1) (s2.data.toList,t2)=Np.aH s1.data.toList s2.data.toList:=by unfold Np.eb;dsimp only;rw[Qb (λe=>h (Np.BB e))]
  rw[hc];clear hc h;go_enter func270,ntmps270;go_wp2_with fail;refine (compare_any s1 s2 bd fU _).mono ?_;rintro e w1 ⟨rfl,hb⟩;rw[HV.out];have HB:=jq hb;clear hb;go_wp2_with fail;go_ret;exact⟨rfl,HB.out⟩
theorem Dn{s:Np.DSet}(h:Np.da s=true):Np.aD s.name=true:=by
 unfold Np.da at h;simp only[Bool.and_eq_true] at h;exact h.1.1.1.1.1.1
def gu(w:World):Prop:=Lib.TabIs prog w "internal/strconv.uint64pow10" .u64 Lib.pow10Tab
theorem Fg:prog.globalNamed "internal/strconv.uint64pow10" = some 1:=by kernel_rfl
theorem gu.lt{w:World}(h:gu w):1<w.heap.size:=by
 unfold gu Lib.TabIs World.var? at h;rw[Fg] at h;simp only[Option.bind_some] at h
 cases hh:w.heap[1]? with
 | none=>rw[hh] at h;cases h
 | some o=>exact (eQ.1 hh).1
theorem gu.keepAt{w w':World}{n:Nat}(h:gu w)(hb:Below n w w')(hn:1<n):gu w':=by
 unfold gu Lib.TabIs World.var? at h |-;rw[Fg] at h |-;simp only[Option.bind_some] at h |-;rw[hb.block _ hn];exact h
theorem gu.keep{w w':World}(h:gu w)(hb:Below w.heap.size w w'):gu w':=h.keepAt hb h.lt
theorem Kj:∀ n:Nat,Lib.decDigits n=Np.lX n:=by
 intro n
 induction n using Nat.strongRecOn with
 | ind n ih=>
  rw[Lib.decDigits,Np.lX];split
  ·rfl
  ·rw[ih (n / 10) (by omega)]
theorem VS(n:Int)(h0:0<=n)(h1:n<=9223372036854775807)(w:World)(hP:gu w) :
 Calls prog 132 #[.int .i64 n] w (aeJ w.heap.size w (ay (Np.ck n))):=
 (Tryz.strconv_Itoa n (by omega) (by omega) w hP).mono λe w' ⟨he,k,os,hw⟩=>by
   refine⟨?_,?_⟩
   ·rw[he,Lib.itoa,Qc (by omega),Kj];rfl
   ·rw[hw];exact Lib.below_grow _ w (bQ _) k os
theorem St(n:Int)(h0:0<=n)(h1:n<18446744073709551616)(w:World)(hP:gu w) :
 Calls prog 133 #[.int .u64 n,.int .i64 10] w (aeJ w.heap.size w (ay (Np.ck n))):=by
 obtain⟨u,rfl⟩:∃ u:Nat,n=u:=⟨n.toNat,by omega⟩;refine (Sv u (by omega) w hP).mono λe w' ⟨he,k,os,hw⟩=>⟨?_,?_⟩
 ·rw[he,Kj];rfl
 ·rw[hw];exact Lib.below_grow _ w (bQ _) k os
theorem xW{n:Int}(h1:n<18446744073709551616):(Np.ck n).length<=20:=Np.R5 19 n.toNat (by omega)
theorem R7(a b:List (List UInt8)):Np.fG (a++b)=Np.fG a++Np.fG b:=by simp[Np.fG]
theorem GX:∀ (ns:List Int) (s:List UInt8),s++(ns.flatMap λn=>47::Np.ck n) ++ [47]=Np.fG (s::ns.map Np.ck)
 | [],s=>by simp[Np.fG]
 | n::ns,s=>by
   rw[Np.xX,List.map_cons,<-GX ns (Np.ck n)];simp
theorem Ni:∀ (ns:List Int) (s:List UInt8),(∀ n∈ns,n<18446744073709551616)->(s++(ns.flatMap λn=>47::Np.ck n) ++ [47]).length<=s.length+1+21 * ns.length
 | [],s,_=>by simp
 | n::ns,s,h=>by
   have:=Ni ns s (λm hm=>h m (mQ _ hm))
   have h2:=xW (h n (by simp));simp at this |-;omega
theorem BA:BldT 198:=⟨by kernel_rfl,by decide⟩
def jR(b:Nat)(r:Option Nat)(w:World)(v:Value)(ns:List Int):Prop:=
 ∃ A c,v = .slice A ns.length c/\ns.length<=c/\∀ i x,ns[i]?=some x->∃ g o,A=some ⟨g,o,none⟩/\g<w.heap.size/\g≠b/\r≠some g/\w.cell? ⟨g,o+i,none⟩=some (.int .i64 x)
theorem jR.step{b:Nat}{r r':Option Nat}{w w':World}{v:Value}{ns:List Int}(h:jR b r w v ns)(hs:BS b r w r' w'):jR b r' w' v ns:=by
 obtain⟨A,c,h1,h2,h4⟩:=h;refine⟨A,c,h1,h2,λi x hx=>?_⟩;obtain⟨g,o,h5,h6,h7,h8,h9⟩:=h4 i x hx;exact⟨g,o,h5,lQ h6 hs.size,h7,hs.free h6 h8,(hs.cell h6 h7 h8 _).trans h9⟩
theorem jR.nil(b:Nat)(r:Option Nat)(w:World):jR b r w (.slice none 0 0) []:=⟨none,0,rfl,bQ _,λi x h=>by simp at h⟩
def oU(ns:List Int):List UInt8:=ns.flatMap λn=>47::Np.ck n
theorem WY{ns:List Int}{k:Nat}{x:Int}(hx:ns[k]?=some x):oU (ns.take (k+1))=oU (ns.take k) ++ [47]++Np.ck x:=by
 obtain⟨hl,he⟩:=cQ.1 hx;rw[fQ hl,he];simp[oU]
theorem MU:∀ (ns:List Int),(∀ n∈ns,n<18446744073709551616)->(oU ns).length<=21 * ns.length
 | [],_=>by simp[oU]
 | n::ns,h=>by
   have:=MU ns (λm hm=>h m (mQ _ hm))
   have h2:=xW (h n (by simp));simp[oU] at this |-;omega
theorem CY(B b:Nat)(r:Option Nat)(l:List UInt8)(s:ByteArray)(v:Value)(ns:List Int)(w:World)(h:Bld 198 B b r l w)(hv:jR b r w v ns)(hn:∀ n∈ns,0<=n/\n<=9223372036854775807)(hl:l.length<=10000000)(hs:s.size<=100000)(tI:ns.length<=100)(gP:B<=w.heap.size)(hP:gu w)(Tg:1<B) :
 Calls prog 217 #[.string s,v,.pointer (some ⟨b,0,none⟩)] w (AC 198 B b r (l++Np.fG (s.data.toList::ns.map Np.ck)) (.tuple #[]) w):=by
 have H:=jq h;have HV:=jq hv;have HP:=jq hP;have HN:=jq hn;have iI:=jq h.row.1;have ki:=jq h.row.2.2;obtain⟨A,c,rfl,hc,-⟩:=hv;obtain⟨m,hm⟩:=abK ns.length;rw[hm] at tI;have HM:=jq hm;have Ek:Hid (∀ k,(oU (ns.take k)).length<=2100):=jq (λk=>by
  have h1:=MU (ns.take k) (λn hn'=>by have:=HN.out n (List.mem_of_mem_take hn');omega);rw[List.length_take] at h1;have h2:=HM.out;omega)
 have dY:s.data.toList.length=s.size:=aX s;have uz:=jq dY;clear h hn hP dY;rw[hm] at HV |-;clear hm hc;go_enter func217,ntmps217;go_wp2_with fail;refine (OJ BA B b r _ s _ H.out (by omega) (by omega) gP).mono ?_;rintro e w1 ⟨rfl,r1,an,bd⟩;have ar:=jq an;have eV:=jq bd;have tP:=bd.size;clear an bd;go_wp2_with fail;go_loopw [11] (λi wr=>∃ (k:Nat) (r':Option Nat),k<=m/\i = .int .i64 k/\Hid (Bld 198 B b r' (l++s.data.toList++oU (ns.take k)) wr)/\Hid (BS b r w r' wr)/\Hid (jR b r' wr (.slice A m c) ns)) (λi _=>m - (intOf i).toNat)
 case atStart=>exact⟨0,r1,jQ _,rfl,jq (by simpa [oU] using ar.out),eV,jq (HV.out.step eV.out)⟩
 case round=>
  obtain⟨k,r',hk,rfl,HB,HS,HX⟩:=hrel;have al:=HS.out.size;have eT:Hid (Below B w wr):=jq (HS.out.below iI.out (λk hk=>(ki.out k hk).1) gP);by_cases aa:k<m
  ·obtain⟨x,ac⟩:∃ x,ns[k]?=some x:=⟨_,aQ (by rw[HM.out];exact aa)⟩;obtain⟨A',c',hA,_,aC⟩:=HX.out;simp only[Value.slice.injEq] at hA;obtain⟨rfl,-,rfl⟩:=hA;obtain⟨g,o,rfl,hg,dw,Cj,hcell⟩:=aC k _ ac;have HJ:=jq (WY ac);have Md:=HN.out x (gQ ac);have EN:=jq Md;have UF:=Ek.out k;have aoY:=Ek.out (k+1);clear aC ac Md;go_wp2_with fail;refine (OI BA B b r' _ 47 47 rfl _ HB.out (by simp;omega) (by omega)).mono ?_;rintro e w2 ⟨rfl,r2,ab,fU⟩;have ai:=jq ab;have jN:=jq fU;have kF:=fU.size;clear ab fU;go_wp2_with fail;refine (VS x EN.out.1 EN.out.2 w2 (HP.out.keepAt (eT.out.trans (jN.out.below iI.out (λk hk=>(HB.out.row.2.2 k hk).1) (by omega))) Tg)).mono ?_;rintro e w3 ⟨rfl,ah⟩;have aB:=jq (ai.out.keep ah);have xr:=jq (jN.out.after ah);have j9:=ah.size;clear ah;go_wp2_with fail;refine (OJ BA B b r2 _ ⟨(Np.ck x).toArray⟩ _ aB.out (by simp;omega) (by rw[<-aX];have:=xW (n:=x) (by have:=EN.out;omega);simp;omega) (by omega)).mono ?_;rintro e w4 ⟨rfl,r4,aq,Gn⟩;have bJ:=jq aq;have Je:=jq (xr.out.trans Gn);clear aq Gn;go_wp2_with fail;go_roundw
   case rel=>exact⟨k+1,r4,by omega,by go_num,jq (by have:=bJ.out;rw[HJ.out];simpa using this),jq (HS.out.trans Je.out),jq (HX.out.step Je.out)⟩
   case measure=>simp[intOf] <;> omega
  ·have UF:=Ek.out k;have jO:Hid (ns.take k=ns):=jq (kQ (by rw[HM.out];omega));go_wp2_with fail;refine (OI BA B b r' _ 47 47 rfl _ HB.out (by simp;omega) (by omega)).mono ?_;rintro e w2 ⟨rfl,r2,ab,fU⟩;have ai:=jq ab;have jN:=jq (HS.out.trans fU);clear ab fU;go_wp2_with fail;go_end0;refine⟨rfl,r2,?_,jN.out⟩
   have:=ai.out
   rw[jO.out] at this;rw[<-GX];simpa [oU] using this
end
end Go.Proofs.YtfnopgdcaanaiaaGreatDoor
