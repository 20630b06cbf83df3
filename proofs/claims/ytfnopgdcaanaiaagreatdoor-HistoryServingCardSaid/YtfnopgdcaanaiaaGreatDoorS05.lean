/- No condition. -/
import Derived.Test.YtfnopgdcaanaiaaGreatDoorRows
import Derived.ProofKit
import Derived.OpenShut
import Derived.Deep.DeepHandedRow
import Derived.Shelf.Strings.OnBuilder
import Derived.Shelf.Strconv.Itoa3
import Derived.Shelf.Strings.LastIndex
import Derived.Shelf.Strings.Prefix
import Derived.Lib.AppendIntMem
import Derived.Deep.Slices
import Derived.Test.YtfnopgdcaanaiaaGreatDoorS01
set_option linter.all false
set_option maxRecDepth 100000
set_option maxHeartbeats 8000000
namespace Go.Proofs.YtfnopgdcaanaiaaGreatDoor
open Go.Proofs.Tryz
section
open Go.RowKit Go.Shelf
section
variable {α:Type}
def jF(p:α->Bool):List α->Int
 | []=>-1
 | x::xs=>if p x then 0 else if jF p xs = -1 then -1 else jF p xs+1
theorem I8(p:α->Bool)(xs:List α)(h:∀ x∈xs,p x=false):jF p xs = -1:=by
 induction xs with
 | nil=>rfl
 | cons x r ih=>rw[jF,Qc (by simp[h x (by simp)]),Qb (ih (λy hy=>h y (by simp[hy])))]
theorem I6(p:α->Bool)(xs:List α)(k:Nat)(hk:k<xs.length)(h:∀ x∈xs.take k,p x=false)(hx:p xs[k]=true):jF p xs=k:=by
 induction xs generalizing k with
 | nil=>simp at hk
 | cons x r ih=>
  cases k with
  | zero=>simp at hx;simp[jF,hx]
  | succ k=>
   have h0:p x=false:=h x (by simp)
   have:=ih k (by simpa using hk) (λy hy=>h y (by simp[hy])) (by simpa using hx)
   rw[jF,Qc (by simp[h0]),Qc (by omega),this];simp
theorem I7(p:α->Bool)(xs:List α):decide (0<=jF p xs)=xs.any p:=by
 induction xs with
 | nil=>rfl
 | cons x r ih=>
  rw[jF];by_cases h:p x=true
  ·simp[h]
  ·rw[Qc h];have h':p x=false:=by simpa using h
   rw[List.any_cons,h',Bool.false_or,<-ih];split
   ·rename_i e;rw[e]
   ·rename_i e;have : -1<=jF p r:=by
     clear ih h h' e
     induction r with
     | nil=>simp[jF]
     | cons y r ih2=>rw[jF];split;omega;split<;>omega
    rw[Bool.eq_iff_iff];simp;omega
def Oi(R:aiQ α)(B:Nat)(w:World)(f:FuncId)(cap:Array Value)(p:α->Bool)(xs:List α):Prop:=
 ∀ (W:World) (x:α) (e0 e1:Value),x∈xs->Below B w W->B<=W.heap.size->R W B [e0,e1] x->Calls prog f (#[.agg #[e0,e1]]++cap) W λe w'=>e = .returned (.bool (p x))/\Below W.heap.size W w'
theorem aHX{R:aiQ α}(hK:dl R)(f:FuncId)(eg:∀ args w,(callFunc f args).run prog w = .ok (.enter f args) w)(cap:Array Value)(p:α->Bool)(v:Value)(xs:List α)(w:World)(B:Nat)(hB:B<=w.heap.size)(h:SlR R 2 w B v xs)
 (hp:Oi R B w f cap p xs) :
 Calls prog 166 #[v,.func (.func f) #[] cap] w (ahZ w.heap.size w (.int .i64 (jF p xs))):=by
 have H:=jq h;have HP:=jq hp;obtain⟨A,c,rfl,bw,bT,gW⟩:=h;clear gW hp;go_enter func166,ntmps166;go_wp2_with fail;go_loopw [8] (λi wr=>∃ k:Nat,k<=xs.length/\i = .int .i64 k/\Below w.heap.size w wr/\Hid (∀ x∈xs.take k,p x=false)) (λi _=>xs.length - (intOf i).toNat)
 case atStart=>exact⟨0,jQ _,rfl,vQ _ _,jq (by simp)⟩
 case round=>
  obtain⟨k,hk,rfl,hb,HA⟩:=hrel;by_cases ab:k<xs.length
  ·have bZ:=hb.mono hB;obtain⟨A',c',hA',_,_,bL⟩:=H.out.keep hK bZ
   cases hA'
   obtain⟨b,o,e,rfl,b7,hlen,hce,hR⟩:=bL k _ (aQ ab)
   match e,hlen with
   | [e0,e1],_=>
   have h0:wr.cell? ⟨b,o+k * 2,none⟩=some e0:=hce 0 _ rfl;have h1:wr.cell? ⟨b,o+k * 2+1,none⟩=some e1:=hce 1 _ rfl;have bP:=HP.out wr xs[k] e0 e1 (List.getElem_mem ab) bZ (by have:=hb.size;omega) hR;have HC:=jq bP;have da:=jq hb;clear bL hce hR bP bZ hb;go_wp2_with (fail);refine HC.out.mono ?_;rintro e w2 ⟨rfl,aa⟩;have ah:=jq aa;clear aa;by_cases bM:p xs[k]=true
   ·have HX:=jq bM;go_wp2_with (fail);go_ret;exact⟨iB (I6 p xs k ab HA.out HX.out).symm,da.out.trans (ah.out.mono da.out.size)⟩
   ·have zh:p xs[k]=false:=by simpa using bM
    have HX:=jq zh;clear bM;go_wp2_with (fail);go_roundw
    case rel=>
     refine⟨k+1,by omega,by go_num,da.out.trans (ah.out.mono da.out.size),jq ?_⟩;rw[fQ ab];intro x hx;rcases List.mem_append.1 hx with h | h
     ·exact HA.out x h
     ·simp at h;subst h;exact HX.out
    case measure=>simp[intOf]<;>omega
  ·go_wp2_with fail;go_ret;exact⟨iB (I8 p xs (by have:=HA.out;rwa [kQ (by omega)] at this)).symm,hb⟩
theorem Y7{R:aiQ α}(hK:dl R)(f:FuncId)(eg:∀ args w,(callFunc f args).run prog w = .ok (.enter f args) w)(cap:Array Value)(p:α->Bool)(v:Value)(xs:List α)(w:World)(B:Nat)(hB:B<=w.heap.size)(h:SlR R 2 w B v xs)
 (hp:Oi R B w f cap p xs) :
 Calls prog 93 #[v,.func (.func f) #[] cap] w (ahZ w.heap.size w (.bool (xs.any p))):=by
 have H:=jq h;have HP:=jq hp;have HE:=jq eg;clear h hp eg;go_enter func93,ntmps93;go_wp2_with (go_at_call 166;refine (aHX hK f HE.out cap p v xs w B hB H.out HP.out).mono ?_;rintro e w' ⟨rfl,hb⟩);go_ret;exact⟨ag (I7 p xs),hb⟩
def XY(R:aiQ α)(B:Nat)(w:World)(f:FuncId)(cap:Array Value)(p:α->Bool)(xs:List α):Prop:=
 ∀ (W:World) (x:α) (e0 e1 e2:Value),x∈xs->Below B w W->B<=W.heap.size->R W B [e0,e1,e2] x->Calls prog f (#[.agg #[e0,e1,e2]]++cap) W λe w'=>e = .returned (.bool (p x))/\Below W.heap.size W w'
theorem R2{R:aiQ α}(hK:dl R)(f:FuncId)(eg:∀ args w,(callFunc f args).run prog w = .ok (.enter f args) w)(cap:Array Value)(p:α->Bool)(v:Value)(xs:List α)(w:World)(B:Nat)(hB:B<=w.heap.size)(h:SlR R 3 w B v xs)
 (hp:XY R B w f cap p xs) :
 Calls prog 106 #[v,.func (.func f) #[] cap] w (ahZ w.heap.size w (.int .i64 (jF p xs))):=by
 have H:=jq h;have HP:=jq hp;obtain⟨A,c,rfl,bw,bT,gW⟩:=h;clear gW hp;go_enter func106,ntmps106;go_wp2_with fail;go_loopw [8] (λi wr=>∃ k:Nat,k<=xs.length/\i = .int .i64 k/\Below w.heap.size w wr/\Hid (∀ x∈xs.take k,p x=false)) (λi _=>xs.length - (intOf i).toNat)
 case atStart=>exact⟨0,jQ _,rfl,vQ _ _,jq (by simp)⟩
 case round=>
  obtain⟨k,hk,rfl,hb,HA⟩:=hrel;by_cases ab:k<xs.length
  ·have bZ:=hb.mono hB;obtain⟨A',c',hA',_,_,bL⟩:=H.out.keep hK bZ
   cases hA'
   obtain⟨b,o,e,rfl,b7,hlen,hce,hR⟩:=bL k _ (aQ ab)
   match e,hlen with
   | [e0,e1,e2],_=>
   have h0:wr.cell? ⟨b,o+k * 3,none⟩=some e0:=hce 0 _ rfl;have h1:wr.cell? ⟨b,o+k * 3+1,none⟩=some e1:=hce 1 _ rfl;have h2:wr.cell? ⟨b,o+k * 3+2,none⟩=some e2:=hce 2 _ rfl;have bP:=HP.out wr xs[k] e0 e1 e2 (List.getElem_mem ab) bZ (by have:=hb.size;omega) hR;have HC:=jq bP;have da:=jq hb;clear bL hce hR bP bZ hb;go_wp2_with (fail);refine HC.out.mono ?_;rintro e w2 ⟨rfl,aa⟩;have ah:=jq aa;clear aa;by_cases bM:p xs[k]=true
   ·have HX:=jq bM;go_wp2_with (fail);go_ret;exact⟨iB (I6 p xs k ab HA.out HX.out).symm,da.out.trans (ah.out.mono da.out.size)⟩
   ·have zh:p xs[k]=false:=by simpa using bM
    have HX:=jq zh;clear bM;go_wp2_with (fail);go_roundw
    case rel=>
     refine⟨k+1,by omega,by go_num,da.out.trans (ah.out.mono da.out.size),jq ?_⟩;rw[fQ ab];intro x hx;rcases List.mem_append.1 hx with h | h
     ·exact HA.out x h
     ·simp at h;subst h;exact HX.out
    case measure=>simp[intOf]<;>omega
  ·go_wp2_with fail;go_ret;exact⟨iB (I8 p xs (by have:=HA.out;rwa [kQ (by omega)] at this)).symm,hb⟩
end
def fj(_:World)(_:Nat)(e:List Value)(x:Np.Span):Prop:=e = [.int .i64 x.frm,.int .i64 x.til]
theorem gN:dl fj:=λ_ _ _ _ _ h _=>h
theorem mO:dy fj:=λ_ _ _ _ _ h _=>h
def Np.C6(l:List Np.Span)(t:Int):Bool:=l.any λs=>decide (s.frm<=t)&&decide (t<s.til)
theorem ajJ(b:Nat)(t f u:Int)(w:World)(h:w.cell? ⟨b,0,none⟩=some (.int .i64 t)) :
 Calls prog 94 #[.agg #[.int .i64 f,.int .i64 u],.pointer (some ⟨b,0,none⟩)] w (ahZ w.heap.size w (.bool (decide (f<=t)&&decide (t<u)))):=by
 have lb:=World.block_lt_of_cell? w _ h;simp only at lb;go_enter func94,ntmps94;go_wp2_with fail
 all_goals
  go_ret;go_light;refine⟨ag ?_,(vQ _ w).alloc (bQ _) _⟩;simp_all<;>(intros;omega)
theorem ajY(v:Value)(l:List Np.Span)(t:Int)(w:World)(h:SlR fj 2 w w.heap.size v l) :
 Calls prog 46 #[v,.int .i64 t] w (ahZ w.heap.size w (.bool (Np.C6 l t))):=by
 have H:=jq h;obtain⟨A,c,rfl,bw,bT,gW⟩:=h;clear gW;have dm:∀ o,Below w.heap.size w (w.alloc o):=λo=>(vQ _ w).alloc (bQ _) _;have aH:=jq dm;clear dm;go_enter func46,ntmps46;go_wp2_with fail;refine (Y7 (R:=fj) gN 94 (enters_of func94 (by kernel_rfl) rfl) _ (λs=>decide (s.frm<=t)&&decide (t<s.til)) _ l _ _ (bQ _) ?_ ?_).mono ?_
 ·exact (H.out.keep gN (aH.out _)).more mO (by simp)
 ·intro W x e0 e1 hx hW vM EE;simp only[fj,List.cons.injEq,and_true] at EE;obtain⟨rfl,rfl⟩:=EE;refine ajJ w.heap.size t x.frm x.til W ?_;rw[hW.cell (by simp)];go_simp
 ·rintro e w1 ⟨rfl,hb⟩;have HB:=jq hb;clear hb;go_wp2_with fail;go_ret;exact⟨rfl,(aH.out _).trans (HB.out.mono (by simp))⟩
def Np.kF(p:Option Int)(s:Np.Span):Bool:=decide (0<=s.frm)&&(decide (s.frm<s.til)&&(decide (s.til<=20000000)&&(match p with | none=>true | some u=>decide (u<s.frm))))
def Np.nU:Option Int->List Np.Span->Bool
 | _,[]=>true
 | p,s::r=>Np.kF p s&&Np.nU (some s.til) r
def Np.zJ(l:List Np.Span):Bool:=decide (l.length<=20000)&&Np.nU none l
def Np.kB(l:List Np.Span):Option Int:=l.getLast?.map (·.til)
theorem Ge{l:List Np.Span}{k:Nat}{s:Np.Span}(hs:l[k]?=some s)(h:Np.kF (Np.kB (l.take k)) s=false):Np.nU (Np.kB (l.take k)) (l.drop k)=false:=by
 rw[sQ (cQ.1 hs).1,(cQ.1 hs).2];simp[Np.nU,h]
theorem TU{l:List Np.Span}{k:Nat}{s:Np.Span}(hs:l[k]?=some s)(h:Np.kF (Np.kB (l.take k)) s=true):Np.nU (Np.kB (l.take k)) (l.drop k)=Np.nU (Np.kB (l.take (k+1))) (l.drop (k+1)):=by
 have h1:=(cQ.1 hs);rw[sQ h1.1,h1.2,fQ h1.1,h1.2];rw[Np.nU,h,Bool.true_and];simp[Np.kB]
theorem aNX{l:List Np.Span}{k:Nat}{s:Np.Span}(hs:l[k]?=some s):Np.kB (l.take (k+1))=some s.til:=by
 have h1:=(cQ.1 hs);rw[fQ h1.1,h1.2];simp[Np.kB]
theorem bgY(v:Value)(l:List Np.Span)(w:World)(h:SlR fj 2 w w.heap.size v l) :
 Calls prog 53 #[v] w (ahZ w.heap.size w (.bool (Np.zJ l))):=by
 have H:=jq h;obtain⟨A,c,rfl,bw,bT,gW⟩:=h;clear gW;by_cases bY:l.length<=20000
 ·have HV:Hid (Np.zJ l=Np.nU none l):=jq (by simp[Np.zJ,bY]);go_enter func53,ntmps53;go_wp2_with fail;go_loopw [10] (λi wr=>∃ k:Nat,k<=l.length/\i = .int .i64 k/\Below w.heap.size w wr/\Hid (Np.nU none l=Np.nU (Np.kB (l.take k)) (l.drop k))) (λi _=>l.length - (intOf i).toNat)
  case atStart=>exact⟨0,jQ _,rfl,vQ _ _,jq rfl⟩
  case round=>
   obtain⟨k,hk,rfl,hb,HA⟩:=hrel;by_cases ab:k<l.length
   ·obtain⟨A',c',hA',_,_,bL⟩:=H.out.keep gN hb
    cases hA'
    obtain⟨b,o,e,rfl,b7,hlen,hce,hR⟩:=bL k _ (aQ ab);obtain rfl:=hR;have h0:wr.cell? ⟨b,o+k * 2,none⟩=some (.int .i64 l[k].frm):=hce 0 _ rfl;have h1:wr.cell? ⟨b,o+k * 2+1,none⟩=some (.int .i64 l[k].til):=hce 1 _ rfl;have HS:Hid (l[k]?=some l[k]):=jq (aQ ab);have oz:=hb.size;have da:=jq hb;clear hce hb;have tP:b<wr.heap.size:=by omega
    have nr:(decide (l[k].frm<0)=true)\/(decide (l[k].frm<0)=false/\decide (l[k].til<=l[k].frm)=true)\/(decide (l[k].frm<0)=false/\decide (l[k].til<=l[k].frm)=false/\decide (20000000<l[k].til)=true)\/(decide (l[k].frm<0)=false/\decide (l[k].til<=l[k].frm)=false/\decide (20000000<l[k].til)=false):=by
     simp only[Qa,decide_eq_false_iff_not];omega
    rcases nr with d1 | ⟨d1,d2⟩ | ⟨d1,d2,d3⟩ | ⟨d1,d2,d3⟩
    ·have HX:Hid (Np.kF (Np.kB (l.take k)) l[k]=false):=jq (by unfold Np.kF;rw[show decide (0<=l[k].frm)=false by simp at d1 |-;omega];rfl);clear bL;go_wp2_with fail;go_quiet (fail);go_wp2_with fail;go_ret;exact⟨ag (by rw[HV.out,HA.out,Ge HS.out HX.out]),below_drewN (da.out.alloc da.out.size _) _⟩
    ·have HX:Hid (Np.kF (Np.kB (l.take k)) l[k]=false):=jq (by unfold Np.kF;rw[show decide (l[k].frm<l[k].til)=false by simp at d2 |-;omega];simp);clear bL;go_wp2_with fail;go_quiet (fail);go_wp2_with fail;go_ret;exact⟨ag (by rw[HV.out,HA.out,Ge HS.out HX.out]),below_drewN (da.out.alloc da.out.size _) _⟩
    ·have HX:Hid (Np.kF (Np.kB (l.take k)) l[k]=false):=jq (by unfold Np.kF;rw[show decide (l[k].til<=20000000)=false by simp at d3 |-;omega];simp);clear bL;go_wp2_with fail;go_quiet (fail);go_wp2_with fail;go_ret;exact⟨ag (by rw[HV.out,HA.out,Ge HS.out HX.out]),below_drewN (da.out.alloc da.out.size _) _⟩
    ·have g1:decide (0<=l[k].frm)=true:=by simp at d1 |-;omega
     have g2:decide (l[k].frm<l[k].til)=true:=by simp at d2 |-;omega
     have g3:decide (l[k].til<=20000000)=true:=by simp at d3 |-;omega
     by_cases cj:0<k
     ·obtain⟨m,rfl⟩:∃ m,k=m+1:=⟨k - 1,by omega⟩;obtain⟨b',o',e',hb',_,_,lj,hR'⟩:=bL m _ (aQ (by omega))
      cases hb'
      obtain rfl:=hR';have p1:wr.cell? ⟨b,o+m * 2+1,none⟩=some (.int .i64 (l[m]'(by omega)).til):=lj 1 _ rfl;have EC:Np.kB (l.take (m+1))=some (l[m]'(by omega)).til:=aNX (aQ (by omega));have gY:decide ((0:Int)<((m+1:Nat):Int))=true:=by simp
      have Cg:(((m+1:Nat):Int) - 1)=(m:Int):=by omega
      by_cases Fd:l[m+1].frm<=(l[m]'(by omega)).til
      ·have d4:decide (l[m+1].frm<=(l[m]'(by omega)).til)=true:=by simpa using Fd
       have HX:Hid (Np.kF (Np.kB (l.take (m+1))) l[m+1]=false):=jq (by rw[EC];simp only[Np.kF,g1,g2,g3,Bool.true_and];simp;omega);clear bL lj EC Fd g1 g2 g3;go_wp2_with fail;go_quiet (fail);go_wp2_with fail;go_ret;exact⟨ag (by rw[HV.out,HA.out,Ge HS.out HX.out]),below_drewN (da.out.alloc da.out.size _) _⟩
      ·have d4:decide (l[m+1].frm<=(l[m]'(by omega)).til)=false:=by simpa using Fd
       have HX:Hid (Np.kF (Np.kB (l.take (m+1))) l[m+1]=true):=jq (by rw[EC];simp only[Np.kF,g1,g2,g3,Bool.true_and];simp;omega);clear bL lj EC Fd g1 g2 g3;go_wp2_with fail;go_quiet (fail);go_wp2_with fail;go_roundw
       case rel=>exact⟨m+1+1,by omega,by go_num,below_drewN (da.out.alloc da.out.size _) _,jq (by rw[HA.out,TU HS.out HX.out])⟩
       ·simp[intOf]<;>omega
     ·have hz:k=0:=by omega
      have HX:Hid (Np.kF (Np.kB (l.take k)) l[k]=true):=jq (by
       have:Np.kB (l.take k)=none:=by rw[hz];rfl
       rw[this];simp only[Np.kF,g1,g2,g3,Bool.true_and])
      have gY:decide ((0:Int)<(k:Int))=false:=by simp;omega
      have jO:decide (0<k)=false:=by simp;omega
      clear bL hz cj g1 g2 g3;go_wp2_with fail;go_quiet (fail);go_wp2_with fail;go_roundw
      case rel=>exact⟨k+1,by omega,by go_num,below_drewN (da.out.alloc da.out.size _) _,jq (by rw[HA.out,TU HS.out HX.out])⟩
      ·simp[intOf]<;>omega
   ·go_wp2_with fail;go_ret;refine⟨ag ?_,hb⟩;rw[HV.out,HA.out,List.drop_of_length_le (by omega)];rfl
 ·have byX:20000<l.length:=by omega
  clear bY;go_enter func53,ntmps53;go_wp2_with fail;go_ret;exact⟨ag (by simp[Np.zJ];omega),vQ _ _⟩
end
section
open Go.ChangeShapes Go.WideShapes Go.ChangeAt Go.RowKit
theorem Po:prog.globalNamed "nameplan/record.rules" = some 0:=by kernel_rfl
theorem adK:(prog.globals[0]?).map (·.type)=some 284:=by kernel_rfl
theorem YK:prog.cellsOf 283=8:=by kernel_rfl
theorem iL:prog.cellsOf 3=1:=by kernel_rfl
theorem IT:prog.cellsOf 4=1:=by kernel_rfl
def oq:Value->DataW Unit
 | .int k n=>.lit (.int k n)
 | .bool b=>.lit (.bool b)
 | _=>.nil
theorem aMX:(Rows.laid_nameplan_record_rules:DataW Unit) = .agg ((List.range 9).map λ(k:Nat)=>.agg ((iU (Np.ca k)).toList.map oq)):=by
 rfl
section
variable {w:World} {base:Nat} {spare:Nat->Bool} {held:Bool} {fuel:Nat} {cs:List Value} {p:List MemPlace}
theorem CZ{n:Int}(h:DataW.trod (λ_=>()) prog w base spare held fuel 3 cs=some (oq (.int .i64 n),p)):cs = [.int .i64 n]:=by
 obtain⟨m,rfl,hx,_⟩:=DataW.trod_int underlying3 h;simp only[oq,Prod.mk.injEq,DataW.lit.injEq,Lit.int.injEq] at hx;rw[hx.1.2]
theorem Lb{b:Bool}(h:DataW.trod (λ_=>()) prog w base spare held fuel 4 cs=some (oq (.bool b),p)):cs = [.bool b]:=by
 obtain⟨m,rfl,hx⟩:=DataW.trod_bool underlying4 h;simp only[oq,Prod.mk.injEq,DataW.lit.injEq,Lit.bool.injEq] at hx;rw[hx.1]
theorem tF{cs:List Value}{o:Nat}{v:Value}(h:(cs.drop o).take 1 = [v]):cs[o]?=some v:=by
 have:=Qd (·[0]?) h
 simpa [List.getElem?_take,List.getElem?_drop] using this
theorem Tz{r:Np.Rule}(h:DataW.trod (λ_=>()) prog w base spare held fuel 283 cs=some (.agg ((iU r).toList.map oq),p)):∀ (j:Nat) (v:Value),(iU r).toList[j]?=some v->cs[j]?=some v:=by
 obtain⟨ys,n,_,hx,_,hlen,hf⟩:=DataW.trod_struct underlying283 h;simp only[Prod.mk.injEq,DataW.agg.injEq] at hx;have hy:∀ (j:Nat) (v:Value),(iU r).toList[j]?=some v->∃ q,ys[j]?=some (oq v,q):=λj v hj=>by
  have h1:(ys.map (·.1))[j]?=some (oq v):=by rw[<-hx.1];simp[hj]
  simp only[List.getElem?_map,Option.map_eq_some_iff] at h1;obtain⟨y,sN,oK⟩:=h1;exact⟨y.2,by rw[sN,<-oK]⟩
 intro j v hj;obtain⟨q,hq⟩:=hy j v hj
 match j,hj,hq with
 | 0,hj,hq=>simp[iU] at hj;subst hj;have:DataW.trod (λ_=>()) prog w base spare held n 3 ((cs.drop 0).take (prog.cellsOf 3))=ys[0]?:=hf 0 _ rfl;rw[hq,iL] at this;exact tF (CZ this)
 | 1,hj,hq=>simp[iU] at hj;subst hj;have:DataW.trod (λ_=>()) prog w base spare held n 3 ((cs.drop 1).take (prog.cellsOf 3))=ys[1]?:=hf 1 _ rfl;rw[hq,iL] at this;exact tF (CZ this)
 | 2,hj,hq=>simp[iU] at hj;subst hj;have:DataW.trod (λ_=>()) prog w base spare held n 3 ((cs.drop 2).take (prog.cellsOf 3))=ys[2]?:=hf 2 _ rfl;rw[hq,iL] at this;exact tF (CZ this)
 | 3,hj,hq=>simp[iU] at hj;subst hj;have:DataW.trod (λ_=>()) prog w base spare held n 3 ((cs.drop 3).take (prog.cellsOf 3))=ys[3]?:=hf 3 _ rfl;rw[hq,iL] at this;exact tF (CZ this)
 | 4,hj,hq=>simp[iU] at hj;subst hj;have:DataW.trod (λ_=>()) prog w base spare held n 3 ((cs.drop 4).take (prog.cellsOf 3))=ys[4]?:=hf 4 _ rfl;rw[hq,iL] at this;exact tF (CZ this)
 | 5,hj,hq=>simp[iU] at hj;subst hj;have:DataW.trod (λ_=>()) prog w base spare held n 4 ((cs.drop 5).take (prog.cellsOf 4))=ys[5]?:=hf 5 _ rfl;rw[hq,IT] at this;exact tF (Lb this)
 | 6,hj,hq=>simp[iU] at hj;subst hj;have:DataW.trod (λ_=>()) prog w base spare held n 4 ((cs.drop 6).take (prog.cellsOf 4))=ys[6]?:=hf 6 _ rfl;rw[hq,IT] at this;exact tF (Lb this)
 | 7,hj,hq=>simp[iU] at hj;subst hj;have:DataW.trod (λ_=>()) prog w base spare held n 4 ((cs.drop 7).take (prog.cellsOf 4))=ys[7]?:=hf 7 _ rfl;rw[hq,IT] at this;exact tF (Lb this)
 | j+8,hj,_=>simp[iU] at hj
end
theorem a9Q{W:World}{rest:List (String×DataW Unit)}(h:laidMet prog (("nameplan/record.rules",Rows.laid_nameplan_record_rules)::rest) W):gq W W.heap.size:=by
 obtain⟨ps,⟨g',t',cs,fuel,p,q,hg',ht',aDY,hd,_,_⟩,_⟩:=h;obtain rfl:=Option.some.inj (Po.symm.trans hg');obtain rfl:=Option.some.inj (adK.symm.trans ht');rw[aMX] at hd;obtain⟨xs,m,_,hx,_,hlen,hf⟩:=DataW.trod_array underlying284 hd;simp only[Prod.mk.injEq,DataW.agg.injEq] at hx;have hcell:∀ (i:Nat) (v:Value),cs[i]?=some v->W.cell? ⟨0,i,none⟩=some v:=λi v hi=>by rw[World.var?_cell Po aDY i];exact hi
 refine⟨?_,λk hk j v hj=>?_⟩
 ·have h0:=hf 0 (by omega);obtain⟨x0,eG⟩:∃ x,xs[0]?=some x:=⟨_,aQ (by omega)⟩;rw[eG] at h0;have h1:x0.1 = .agg ((iU (Np.ca (0:Nat))).toList.map oq):=by
   have:(xs.map (·.1))[0]?=some (.agg ((iU (Np.ca (0:Nat))).toList.map oq)):=by rw[<-hx.1];rfl
   rw[List.getElem?_map,eG] at this;simpa using this
  rw[show x0=(x0.1,x0.2) from rfl,h1] at h0;have h2:=Tz h0 0 _ rfl;simp only[Nat.zero_mul,List.drop_zero,List.getElem?_take] at h2;split at h2
  ·exact World.block_lt_of_cell? _ _ (hcell 0 _ (by simpa using h2))
  ·cases h2
 ·have h0:=hf k hk;obtain⟨x0,eG⟩:∃ x,xs[k]?=some x:=⟨_,aQ (by omega)⟩;rw[eG] at h0;have h1:x0.1 = .agg ((iU (Np.ca k)).toList.map oq):=by
   have:(xs.map (·.1))[k]?=some (.agg ((iU (Np.ca k)).toList.map oq)):=by rw[<-hx.1,List.getElem?_map,List.getElem?_range hk];rfl
   rw[List.getElem?_map,eG] at this;simpa using this
  rw[show x0=(x0.1,x0.2) from rfl,h1] at h0;have h2:=Tz h0 j v hj;rw[YK,List.getElem?_take] at h2;split at h2
  ·rw[List.getElem?_drop] at h2;exact hcell _ _ (by simpa using h2)
  ·cases h2
end
namespace Np
def cM(a:List UInt8)(l:List Signed):List (List UInt8):=(l.filter λx=>decide (x.set.type=2)&&!(x.set.name == a)).map (·.set.name)
theorem Zm(a:List UInt8)(l:List Signed)(x:Signed):cM a (l ++ [x])=if x.set.type=2/\x.set.name≠a then cM a l ++ [x.set.name] else cM a l:=by
 unfold cM;rw[List.filter_append];by_cases h1:x.set.type=2<;>by_cases h2:x.set.name=a<;>simp[h1,h2]
theorem CU{a:List UInt8}{l:List Signed}{c:List UInt8} : c∈cM a l↔cN ⟨a,l⟩ c=true:=by
 unfold cM;rw[IY,List.mem_map];constructor
 ·rintro⟨x,hx,rfl⟩;obtain⟨h1,h2⟩:=List.mem_filter.1 hx;simp only[Bool.and_eq_true,Qa,Bool.not_eq_true',beq_eq_false_iff_ne] at h2;exact⟨x,h1,h2.1,h2.2,rfl⟩
 ·rintro⟨x,hx,h1,h2,rfl⟩;exact⟨x,List.mem_filter.2 ⟨hx,by simpa [h1] using h2⟩,rfl⟩
theorem O4{z:Zone}(h:InOrder z):(cM z.apex z.sets).Pairwise λa b=>aL a b<0:=by
 unfold cM;rw[List.pairwise_map];have h1:(z.sets.filter λx=>decide (x.set.type=2)&&!(x.set.name == z.apex)).Pairwise λa b=>gE a.set b.set<0:=by
  have:=h.order
  rw[List.pairwise_map] at this;exact this.sublist List.filter_sublist
 refine h1.imp_of_mem λ{a b} ha hb ab=>?_;obtain⟨_,ha⟩:=List.mem_filter.1 ha;obtain⟨_,hb⟩:=List.mem_filter.1 hb;simp only[Bool.and_eq_true,Qa] at ha hb;rcases Int.lt_or_eq_of_le (OR ab) with h2 | h2
 ·exact h2
 ·have:=OS ab (eY.zero _ _ h2)
  omega
def oF(out:List (List UInt8))(c:List UInt8):List (List UInt8):=
 match out.getLast? with
 | none=>[c]
 | some h=>if aX c h=true then out else out ++ [c]
def dX(l:List (List UInt8)):List (List UInt8):=l.foldl oF []
theorem Qr(l:List (List UInt8))(c:List UInt8):dX (l ++ [c])=oF (dX l) c:=by simp[dX]
structure Ba(l out:List (List UInt8)):Prop where
 sub:out.Sublist l
 above:∀ c∈l,∃ h∈out,aX c h=true
 top:∀ h∈out,∀ c∈l,aX h c=true->c=h
theorem arY{l out:List (List UInt8)}{c:List UInt8}(hne:∀ x∈l ++ [c],x≠[])(hs:(l ++ [c]).Pairwise λa b=>aL a b<0)(h:Ba l out):Ba (l ++ [c]) (oF out c):=by
 obtain⟨h1,_,h3⟩:=List.pairwise_append.1 hs;have ab:∀ x∈l,aL x c<0:=λx hx=>h3 x hx c (by simp);have hout:∀ x∈out,x∈l:=λx hx=>h.sub.subset hx;have hcn:c≠[]:=hne c (by simp);have un:∀ x∈l,aX x c=true->False:=λx hx hu=>by
  have a1:=Gi hcn hu;have a2:=eY.anti _ _ (ab x hx);omega
 unfold oF
 cases hg:out.getLast? with
 | none=>
  have ho:out = []:=by simpa using hg
  have hl:l = []:=by
   cases l with
   | nil=>rfl
   | cons y l=>obtain⟨q,hq,_⟩:=h.above y (by simp);rw[ho] at hq;cases hq
  subst ho hl;refine⟨by simp,λx hx=>⟨c,by simp,?_⟩,λx hx y hy _=>?_⟩
  ·simp at hx;subst hx;exact zM _
  ·simp at hx hy;rw[hx,hy]
 | some q=>
  have hq:q∈out:=List.mem_of_getLast? hg;dsimp only;split
  ·rename_i hu;refine⟨h.sub.trans (List.sublist_append_left _ _),λx hx=>?_,λx hx y hy cH=>?_⟩
   ·rcases List.mem_append.1 hx with hx | hx
    ·exact h.above x hx
    ·simp at hx;subst hx;exact⟨q,hq,hu⟩
   ·rcases List.mem_append.1 hy with hy | hy
    ·exact h.top x hx y hy cH
    ·simp at hy;subst hy;exact (un x (hout x hx) cH).elim
  ·rename_i hu;refine⟨List.Sublist.append h.sub (List.Sublist.refl _),λx hx=>?_,λx hx y hy cH=>?_⟩
   ·rcases List.mem_append.1 hx with hx | hx
    ·obtain⟨t,ht,lx⟩:=h.above x hx;exact⟨t,List.mem_append_left _ ht,lx⟩
    ·simp at hx;subst hx;exact⟨x,by simp,zM _⟩
   ·rcases List.mem_append.1 hx with dO | dO
    ·rcases List.mem_append.1 hy with sN | sN
     ·exact h.top x dO y sN cH
     ·rw[List.mem_singleton] at sN;rw[sN] at cH;exact (un x (hout x dO) cH).elim
    ·simp at dO;subst dO;rcases List.mem_append.1 hy with hy | hy
     ·exfalso;obtain⟨t,ht,lx⟩:=h.above y hy;have Rx:t≠[]:=hne t (List.mem_append_left _ (hout t ht));have hyn:y≠[]:=hne y (List.mem_append_left _ hy);have RI:=LG hyn Rx cH lx;by_cases CG:t=q
      ·subst CG;exact hu RI
      ·obtain⟨o',ho'⟩:=List.getLast?_eq_some_iff.1 hg;have Rm:out.Pairwise λa b=>aL a b<0:=h1.sublist h.sub;rw[ho'] at Rm ht;have Ry:t∈o':=by
        rcases List.mem_append.1 ht with ht | ht
        ·exact ht
        ·simp at ht;exact absurd ht CG
       have ul:=(List.pairwise_append.1 Rm).2.2 t Ry q (by simp);have hqx:=ab q (hout q hq);have Ct:=LE Rx RI (Int.le_of_lt ul) (Int.le_of_lt hqx);exact CG (h.top q hq t (hout t (by rw[ho'];exact List.mem_append_left _ Ry)) Ct)
     ·simp at hy;exact hy
theorem Qt:∀ (r p:List (List UInt8)),(∀ x∈p++r,x≠[])->(p++r).Pairwise (λa b=>aL a b<0)->Ba p (dX p)->Ba (p++r) (dX (p++r))
 | [],p,_,_,h=>by rw[List.append_nil];exact h
 | c::r,p,hne,hs,h=>by
   have e:p++c::r=(p ++ [c])++r:=by simp
   rw[e] at hne hs |-;refine Qt r (p ++ [c]) hne hs ?_;rw[Qr];exact arY (λx hx=>hne x (List.mem_append_left _ hx)) (List.pairwise_append.1 hs).1 h
theorem arX(l:List (List UInt8))(hne:∀ x∈l,x≠[])(hs:l.Pairwise λa b=>aL a b<0):Ba l (dX l):=
 Qt l [] hne hs ⟨List.Sublist.refl _,λc hc=>(by cases hc),λh hh=>(by cases hh)⟩
theorem Qs{z:Zone}(h:InOrder z):Oe (cN z) (dX (cM z.apex z.sets))/\∀ c,cN z c=true->(∀ d,cN z d=true->aX c d=true->d=c)->c∈dX (cM z.apex z.sets):=by
 have hne:∀ x∈cM z.apex z.sets,x≠[]:=λx hx=>Bp h x (CU.1 hx);have ho:=arX _ hne (O4 h);refine⟨⟨λc hc=>⟨CU.1 (ho.sub.subset hc),λd hd hu=>ho.top c hc d (CU.2 hd) hu⟩,(O4 h).sublist ho.sub⟩,λc hc ht=>?_⟩;obtain⟨t,h1,h2⟩:=ho.above c (CU.2 hc);rw[<-ht t (CU.1 (ho.sub.subset h1)) h2];exact h1
def jp(H:List (List UInt8))(k:Nat)(n:List UInt8):List UInt8:=if 0<k/\aX n (H[k - 1]?.getD [])=true then H[k - 1]?.getD [] else []
theorem a3Z{z:Zone}(h:InOrder z){n:List UInt8}{k:Nat}(hk:k<=(dX (cM z.apex z.sets)).length)(h1:∀ j x,j<k->(dX (cM z.apex z.sets))[j]?=some x->aL x n<=0)(h2:∀ j x,k<=j->(dX (cM z.apex z.sets))[j]?=some x->0<aL x n):ja (cN z) n (jp (dX (cM z.apex z.sets)) k n):=by
 obtain⟨p1,p2⟩:=Qs h
 have:=asQ (Bp h) p1 (n:=n) (λc hc ht _=>p2 c hc ht) hk (λj hj wD=>h1 j _ wD (aQ hj)) (λj hj wD=>h2 j _ wD (aQ hj))
 unfold jp;split
 ·rename_i hc;rw[dif_pos hc] at this;exact this
 ·rename_i hc;rw[dif_neg hc] at this;exact this
def fZ(c:Copy):Int×List UInt8:=(c.host,c.zone.apex)
def fC(l:List Copy)(p:Int×List UInt8):List Span:=(l.filter λc=>decide (fZ c=p)).map ia
theorem Eu(l:List Copy)(c:Copy)(p:Int×List UInt8):fC (l ++ [c]) p=if fZ c=p then fC l p ++ [ia c] else fC l p:=by
 unfold fC;rw[List.filter_append];by_cases h:fZ c=p
 ·simp[h]
 ·simp[h]
theorem Pv{l:List Copy}{p:Int×List UInt8}(h:∀ c∈l,fZ c≠p):fC l p = []:=by
 unfold fC;rw[List.filter_eq_nil_iff.2 (λc hc=>by simpa using h c hc)];rfl
structure GrpI(kvs:List ((Int×List UInt8)×List Span))(l:List Copy):Prop where
 nodup:(kvs.map (·.1)).Nodup
 each:∀ x∈kvs,x.2=fC l x.1
 all:∀ c∈l,fZ c∈kvs.map (·.1)
theorem GrpI.nil:GrpI [] []:=⟨by simp,λx hx=>(by cases hx),λc hc=>(by cases hc)⟩
theorem GrpI.old{kvs:List ((Int×List UInt8)×List Span)}{l:List Copy}(h:GrpI kvs l){c:Copy}{j:Nat}{g:List Span}(hj:kvs[j]?=some (fZ c,g)):GrpI (kvs.set j (fZ c,g ++ [ia c])) (l ++ [c]):=by
 obtain⟨hl,he⟩:=cQ.1 hj;have hk:(kvs.set j (fZ c,g ++ [ia c])).map (·.1)=kvs.map (·.1):=by
  rw[List.map_set];apply List.ext_getElem?;intro i;rw[List.getElem?_set];split
  ·rename_i e;subst e;rw[List.length_map,Qb hl,List.getElem?_map,hj];rfl
  ·rfl
 have hg:=h.each _ (gQ hj);refine⟨by rw[hk];exact h.nodup,λx hx=>?_,λd hd=>?_⟩
 ·obtain⟨i,hi,rfl⟩:=nQ.1 hx;rw[List.length_set] at hi;rw[List.getElem_set];split
  ·rename_i e;subst e;rw[Eu,Qb rfl];simp only at hg |-;rw[<-hg]
  ·rename_i e;rw[Eu,Qc]
   ·exact h.each _ (List.getElem_mem hi)
   ·intro e2;apply e;have h1:(kvs.map (·.1))[j]'(by simpa using hl)=(kvs.map (·.1))[i]'(by simpa using hi):=by simp[he,e2]
    exact (List.getElem_inj (h₀:=by simpa using hl) (h₁:=by simpa using hi) h.nodup).1 h1
 ·rw[hk];rcases List.mem_append.1 hd with hd | hd
  ·exact h.all d hd
  ·rw[List.mem_singleton] at hd;subst hd;exact List.mem_map.2 ⟨_,gQ hj,rfl⟩
theorem GrpI.new{kvs:List ((Int×List UInt8)×List Span)}{l:List Copy}(h:GrpI kvs l){c:Copy}(hn:fZ c∉kvs.map (·.1)):GrpI (kvs ++ [(fZ c,[ia c])]) (l ++ [c]):=by
 have h0:fC l (fZ c) = []:=Pv λd hd e=>hn (by rw[<-e];exact h.all d hd);refine⟨?_,λx hx=>?_,λd hd=>?_⟩
 ·rw[List.map_append,List.nodup_append];refine⟨h.nodup,by simp,λa ha b hb e=>?_⟩;simp at hb;subst hb;subst e;exact hn ha
 ·rcases List.mem_append.1 hx with hx | hx
  ·rw[Eu,Qc]
   ·exact h.each x hx
   ·intro e;exact hn (by rw[e];exact List.mem_map.2 ⟨x,hx,rfl⟩)
  ·rw[List.mem_singleton] at hx;subst hx;rw[Eu,Qb rfl,h0];rfl
 ·rw[List.map_append];rcases List.mem_append.1 hd with hd | hd
  ·exact List.mem_append_left _ (h.all d hd)
  ·rw[List.mem_singleton] at hd;subst hd;simp
def og(a b:Span):Prop:=a.frm<b.til/\b.frm<a.til
theorem og.symm{a b:Span}(h:og a b):og b a:=⟨h.2,h.1⟩
def IJ(m:List Span):Prop:=∀ i (h:i+1<m.length),m[i].til<=m[i+1].frm
theorem a7Y{m l:List Span}(hp:m.Perm l)(hs:m.Pairwise λa b=>a.frm<=b.frm)(hf:∀ s∈l,s.frm<s.til):IJ m↔l.Pairwise λa b=>¬ og a b:=by
 rw[<-hp.pairwise_iff (R:=λa b=>¬ og a b) (λ{a b} h k=>h k.symm)];have Ql:∀ s∈m,s.frm<s.til:=λs hs=>hf s (hp.mem_iff.1 hs);clear hp hf;constructor
 ·intro h;rw[List.pairwise_iff_getElem];intro i j hi hj de ho;have key:∀ d,∀ (h1:i+d+1<m.length),(m[i]'(by omega)).til<=(m[i+d+1]'h1).frm:=by
   intro d
   induction d with
   | zero=>intro h1;exact h i h1
   | succ d ih=>
    intro h1;have h2:=ih (by omega);have h3:=h (i+d+1) (by omega);have h4:=Ql _ (List.getElem_mem (show i+d+1<m.length by omega));have e:i+(d+1)+1=i+d+1+1:=by omega
    simp only[e];omega
  obtain⟨d,rfl⟩:∃ d,j=i+d+1:=⟨j - i - 1,by omega⟩
  have:=key d hj
  have:=ho.2
  omega
 ·intro h i hi;rw[List.pairwise_iff_getElem] at h hs;have h1:=h i (i+1) (by omega) hi (by omega);have h2:=hs i (i+1) (by omega) hi (by omega);have h3:=Ql _ (List.getElem_mem hi);unfold og at h1;omega
theorem aeQ(l:List Copy):(l.Pairwise λc d=>¬ iV c d)↔∀ p,(fC l p).Pairwise λa b=>¬ og a b:=by
 induction l with
 | nil=>simp[fC]
 | cons c l ih=>
  rw[List.pairwise_cons,ih];constructor
  ·rintro⟨h1,h2⟩ p;by_cases hp:fZ c=p
   ·have e:fC (c::l) p=ia c::fC l p:=by unfold fC;simp[hp]
    rw[e,List.pairwise_cons];refine⟨λs hs=>?_,h2 p⟩;obtain⟨d,hd,rfl⟩:=List.mem_map.1 hs;obtain⟨fp,lZ⟩:=List.mem_filter.1 hd;have hk:fZ d=fZ c:=by rw[hp];simpa using lZ
    intro ho;unfold fZ at hk;simp only[Prod.mk.injEq] at hk;exact h1 d fp ⟨hk.1.symm,hk.2.symm,ho.1,ho.2⟩
   ·have e:fC (c::l) p=fC l p:=by unfold fC;simp[hp]
    rw[e];exact h2 p
  ·intro h;refine⟨λd hd gF=>?_,λp=>?_⟩
   ·have h1:=h (fZ c);have e:fC (c::l) (fZ c)=ia c::fC l (fZ c):=by unfold fC;simp
    rw[e,List.pairwise_cons] at h1;refine h1.1 (ia d) (List.mem_map.2 ⟨d,List.mem_filter.2 ⟨hd,?_⟩,rfl⟩) ⟨gF.2.2.1,gF.2.2.2⟩;unfold fZ;simp[gF.1,gF.2.1]
   ·have h1:=h p;by_cases hp:fZ c=p
    ·have e:fC (c::l) p=ia c::fC l p:=by unfold fC;simp[hp]
     rw[e,List.pairwise_cons] at h1;exact h1.2
    ·have e:fC (c::l) p=fC l p:=by unfold fC;simp[hp]
     rwa [e] at h1
theorem GrpI.ok{kvs:List ((Int×List UInt8)×List Span)}{l:List Copy}(h:GrpI kvs l):(l.Pairwise λc d=>¬ iV c d)↔∀ x∈kvs,x.2.Pairwise λa b=>¬ og a b:=by
 rw[aeQ];constructor
 ·intro h1 x hx;rw[h.each x hx];exact h1 _
 ·intro h1 p;by_cases hp:p∈kvs.map (·.1)
  ·obtain⟨x,hx,rfl⟩:=List.mem_map.1 hp;rw[<-h.each x hx];exact h1 x hx
  ·rw[Pv λc hc e=>hp (by rw[<-e];exact h.all c hc)];exact List.Pairwise.nil
end Np
section
open Go.RowKit
def Np.Be(l:List Np.Signed)(k:Nat)(x:Np.Signed):Prop:=∀ p,0<k->l[k - 1]?=some p->p.set.name=x.set.name->x.set.type≠3/\(Np.nO (l.take (k+1))=x.set.name->x.set.type=8)
def Np.Bf(l:List Np.Signed):Prop:=∀ k x,l[k]?=some x->Np.Be l k x
theorem aMY{l:List Np.Signed}{k:Nat}{x:Np.Signed}(hx:l[k]?=some x):Np.nO (l.take (k+1))=if x.set.type=3 then x.set.name else Np.nO (l.take k):=by
 obtain⟨hk,rfl⟩:=cQ.1 hx;rw[fQ hk,Np.K2]
theorem a6Z(a:ByteArray)(v:Value)(l:List Np.Signed)(bY:l.length<=20000)(hv:∀ x∈l,x.set.name≠[])(w:World)(hd:SlR br 5 w w.heap.size v l) :
 Calls prog 161 #[.agg #[.string a,v]] w (ahZ w.heap.size w (.bool (Np.yes (Np.Bf l)))):=by
 obtain⟨r,hr⟩:=afZ (Np.yes (Np.Bf l));rw[hr];have HR:=jq hr;have HD:=jq hd;have HV:=jq hv;obtain⟨A,c,rfl,bw,bT⟩:=ak hd;clear hr hd hv;have HW:=blW w;go_enter func161,ntmps161;go_wp2_with fail;obtain⟨w1,am⟩:=afZ (w.alloc (.cells #[.string a,.slice A l.length c] 44));have c1:w1.cell? ⟨w.heap.size,1,none⟩=some (.slice A l.length c):=by rw[<-am];simp[go_sem]
 have bF:w1.heap.size=w.heap.size+1:=by rw[<-am];simp
 have aF:Hid (Below w.heap.size w w1):=jq (by rw[<-am];exact HW.out _);rw[am];clear am;go_loopw [3,4] (λva i wr=>∃ (k:Nat) (sa:ByteArray),k<=l.length/\i = .int .i64 k/\va = .string sa/\Hid (sa.data.toList=Np.nO (l.take k))/\Hid (Below w1.heap.size w1 wr)/\Hid (∀ j x,j<k->l[j]?=some x->Np.Be l j x)) (λ_ i _=>l.length - (intOf i).toNat)
 case atStart=>exact⟨0,⟨#[]⟩,jQ _,rfl,rfl,jq rfl,jq (vQ _ _),jq (λj g hj=>by omega)⟩
 case round=>
  obtain⟨k,sa,hk,rfl,rfl,DS,HB,HA⟩:=hrel;have ay:=HB.out.size;have d1:wr.cell? ⟨w.heap.size,1,none⟩=some (.slice A l.length c):=aeK HB.out c1;have aH:=aeX aF HB.out;have du:w.heap.size<wr.heap.size:=by omega
  by_cases ab:k<l.length
  ·obtain⟨x,ae⟩:∃ x,l[k]?=some x:=⟨_,aQ ab⟩;obtain⟨b,o,c',sn,dv,sv,hA,bZ,_,aD,cu,aY,aN,f0,f1,f2,f3,f4⟩:=dB (HD.out.keep aP aH.out) ae
   cases hA
   have HX:=jq ae;have aZ:=jq aD;have Nd:=jq (aMY ae);have hne:(sn.toList == [])=false:=by rw[dQ,aD];simpa using HV.out x (gQ ae)
   have iY:Hid (Np.Be l k x->∀ j y,j<k+1->l[j]?=some y->Np.Be l j y):=jq (λh j y hj hy=>by
    by_cases e:j=k
    ·subst e;rw[ae] at hy;cases hy;exact h
    ·exact HA.out j y (by omega) hy)
   have HF:Hid (¬ Np.Be l k x->r=false):=jq (λh=>by rw[<-HR.out];exact Np.aR λq=>h (q k x ae));have cj:(0:Int)<=(k:Int):=by omega
   have ck:(k:Int)<(l.length:Int):=by omega
   have av:b<wr.heap.size:=by omega
   have JP:∃ q:Bool,Hid (q=true↔∃ p,0<k/\l[k - 1]?=some p/\p.set.name=x.set.name)/\((k=0/\q=false)\/∃ (m:Nat) (sy:ByteArray),k=m+1/\wr.cell? ⟨b,o+m * 5,none⟩=some (.string sy)/\(sy.toList == sn.toList)=q):=by
    by_cases gH:k=0
    ·exact⟨false,jq ⟨λh=>(by cases h),λ⟨p,h,_⟩=>(by omega)⟩,.inl ⟨gH,rfl⟩⟩
    ·obtain⟨m,rfl⟩:∃ m,k=m+1:=⟨k - 1,by omega⟩;obtain⟨y,hy⟩:∃ y,l[m]?=some y:=⟨_,aQ (by omega)⟩;obtain⟨b9,o9,c9,sy,dv9,sv9,hA,_,_,kw,_,_,_,q0,q1,_⟩:=dB (HD.out.keep aP aH.out) hy;simp only[Value.slice.injEq,Option.some.injEq,Addr.mk.injEq,and_true,true_and] at hA;obtain⟨⟨rfl,rfl⟩,-⟩:=hA;refine⟨_,jq ?_,.inr ⟨m,sy,rfl,q0,rfl⟩⟩;rw[dQ,dQ,kw,aZ.out,beq_iff_eq];constructor
     ·intro h;exact⟨y,by omega,by simpa using hy,h⟩
     ·rintro⟨p,_,hp,h⟩;rw[show m+1 - 1=m by omega,hy] at hp
      cases hp;exact h
   obtain⟨qb,rB,Cs⟩:=JP;obtain⟨ty,cw⟩:=afZ x.set.type;have fB:=jq cw;rw[cw] at f1;clear ae aD aY aN cw f2 f3 f4;have gX:∃ m:Nat,(decide ((0:Int)<(k:Int))=false/\decide (0<k)=false/\qb=false)\/(decide ((0:Int)<(k:Int))=true/\decide (0<k)=true/\IntKind.i64.wrap ((k:Int) - 1)=(m:Int)/\(k:Int) - 1=(m:Int)/\(0:Int)<=(m:Int)/\(m:Int)<(l.length:Int)/\∃ sy:ByteArray,wr.cell? ⟨b,o+m * 5,none⟩=some (.string sy)/\(sy.toList == sn.toList)=qb):=by
    rcases Cs with ⟨gH,h⟩ | ⟨m,sy,l4,g0,sE⟩
    ·exact⟨0,.inl ⟨by simp;omega,by simp;omega,h⟩⟩
    ·exact⟨m,.inr ⟨by simp;omega,by simp;omega,by rw[IntWalk.i64_in _ (by omega)];omega,by omega,by omega,by omega,sy,g0,sE⟩⟩
   clear Cs;obtain⟨m,gX⟩:=gX;by_cases h3:ty=3
   ·subst h3;have ue:Hid (sn.data.toList=Np.nO (l.take (k+1))):=jq (by rw[Nd.out,Qb fB.out,aZ.out]);rcases gX with ⟨gY,jO,rfl⟩ | ⟨gY,jO,KS,Fm,ki,l3,sy,g0,sE⟩
    ·have bW:=jq (iY.out (λp h0 hp he=>by have:=rB.out.2 ⟨p,h0,hp,he⟩;cases this));go_wp2_with fail;go_quiet (fail);go_wp2_with fail;go_roundw
     case rel=>exact⟨k+1,sn,by omega,by go_num,rfl,ue,jq (below_drewN HB.out _),jq bW.out⟩
     ·simp[intOf]<;>omega
    ·cases qb with
     | false=>
      have bW:=jq (iY.out (λp h0 hp he=>by have:=rB.out.2 ⟨p,h0,hp,he⟩;cases this));go_wp2_with fail;go_quiet (fail);go_wp2_with fail;go_roundw
      case rel=>exact⟨k+1,sn,by omega,by go_num,rfl,ue,jq (below_drewN HB.out _),jq bW.out⟩
      ·simp[intOf]<;>omega
     | true=>
      have pq:Hid (r=false):=jq (HF.out λh=>by
       obtain⟨p,h0,hp,he⟩:=rB.out.1 (by simp);exact (h p h0 hp he).1 fB.out)
      go_wp2_with fail;go_quiet (fail);obtain⟨w2,aj⟩:=afZ (wr.drewN nq);rw[aj];have aa:Below wr.heap.size wr w2:=by rw[<-aj];exact below_drewN (vQ _ _) _
      have t1:w2.cell? ⟨w.heap.size,1,none⟩=some (.slice (some ⟨b,o,none⟩) l.length c):=aeK aa d1;have t2:w2.cell? ⟨b,o+k * 5,none⟩=some (.string sn):=aeK aa f0;have ew:=aeX aH aa;clear aa aj;go_wp2_with fail;go_ret;exact⟨ag pq.out.symm,ew.out⟩
   ·have h3':(ty == 3)=false:=by simpa using h3
    have h3'':(ty != 3)=true:=by simpa using h3
    have ue:Hid (sa.data.toList=Np.nO (l.take (k+1))):=jq (by rw[Nd.out,Qc (by rw[fB.out];exact h3)];exact DS.out);rcases gX with ⟨gY,jO,rfl⟩ | ⟨gY,jO,KS,Fm,ki,l3,sy,g0,sE⟩
    ·have bW:=jq (iY.out (λp h0 hp he=>by have:=rB.out.2 ⟨p,h0,hp,he⟩;cases this));go_wp2_with fail;go_quiet (fail);go_wp2_with fail;go_roundw
     case rel=>exact⟨k+1,sa,by omega,by go_num,rfl,ue,jq (below_drewN HB.out _),jq bW.out⟩
     ·simp[intOf]<;>omega
    ·cases qb with
     | false=>
      have bW:=jq (iY.out (λp h0 hp he=>by have:=rB.out.2 ⟨p,h0,hp,he⟩;cases this));go_wp2_with fail;go_quiet (fail);go_wp2_with fail;go_roundw
      case rel=>exact⟨k+1,sa,by omega,by go_num,rfl,ue,jq (below_drewN HB.out _),jq bW.out⟩
      ·simp[intOf]<;>omega
     | true=>
      obtain⟨qe,Kz⟩:=afZ (sn.toList == sa.toList);have NG:Hid (qe=true↔Np.nO (l.take (k+1))=x.set.name):=jq (by rw[<-Kz,dQ,dQ,aZ.out,ue.out,beq_iff_eq];exact eq_comm);obtain⟨q8,wW⟩:=afZ (ty != 8);have DP:Hid (q8=true↔x.set.type≠8):=jq (by rw[<-wW,fB.out];simp);have AQ:Hid (x.set.type≠3):=jq (by rw[fB.out];exact h3);clear h3;go_wp2_with fail;go_quiet (fail);obtain⟨w2,aj⟩:=afZ (wr.drewN nq);rw[aj];have aa:Below wr.heap.size wr w2:=by rw[<-aj];exact below_drewN (vQ _ _) _
      have t1:w2.cell? ⟨w.heap.size,1,none⟩=some (.slice (some ⟨b,o,none⟩) l.length c):=aeK aa d1;have t2:w2.cell? ⟨b,o+k * 5,none⟩=some (.string sn):=aeK aa f0;have ew:=aeX aH aa;have N5:=jq (HB.out.trans (aa.mono HB.out.size));clear aa aj
      cases qe with
      | false=>
       have bW:=jq (iY.out (λp h0 hp he=>⟨AQ.out,λhl=>by have:=NG.out.2 hl;cases this⟩));go_wp2_with fail;go_roundw
       case rel=>exact⟨k+1,sa,by omega,by go_num,rfl,ue,jq N5.out,jq bW.out⟩
       ·simp[intOf]<;>omega
      | true=>
       cases q8 with
       | false=>
        have bW:=jq (iY.out (λp h0 hp he=>⟨AQ.out,λ_=>Decidable.not_not.1 λh8=>by have:=DP.out.2 h8;cases this⟩));go_wp2_with fail;go_roundw
        case rel=>exact⟨k+1,sa,by omega,by go_num,rfl,ue,jq N5.out,jq bW.out⟩
        ·simp[intOf]<;>omega
       | true=>
        have pq:Hid (r=false):=jq (HF.out λh=>by
         obtain⟨p,h0,hp,he⟩:=rB.out.1 (by simp);exact DP.out.1 (by simp) ((h p h0 hp he).2 (NG.out.1 (by simp))))
        go_wp2_with fail;go_ret;exact⟨ag pq.out.symm,ew.out⟩
  ·go_wp2_with fail;go_ret;refine⟨ag ?_,aH.out⟩;rw[<-HR.out];exact (Np.bV λi x hx=>HA.out i x (by have:=(cQ.1 hx).1;omega) hx).symm
end
namespace Np
def Stop(y:List UInt8):Prop:=y = []\/∃ c r,y=c::r/\sT c=false
def Lx(x:List UInt8)(ts:List Tok)(free:Bool):Prop:=
 ∀ (y:List UInt8) (p k:Nat),(free=true\/Stop y)->k<=2000->
   (k+ts.length<=2000->∃ ts',ts'.map Ej=ts.map Ej/\oL (x++y) p k=(ts'++(oL y (p+x.length) (k+ts.length)).1,(oL y (p+x.length) (k+ts.length)).2))/\
   (2000<k+ts.length->(oL (x++y) p k).2.1=2)
theorem Lx.weaken{x:List UInt8}{ts:List Tok}{f:Bool}(h:Lx x ts f):Lx x ts false:=λy p k hy hk=>
 h y p k (.inr (by rcases hy with hy | hy;cases hy;exact hy)) hk
theorem aPY:∀ (s:List UInt8) (c:UInt8),c∈s->c=46\/∃ x∈bl s,c∈x:=by
 intro s
 induction s with
 | nil=>intro c h;cases h
 | cons a r ih=>
  intro c hc;rw[bl];by_cases ha:a=46
  ·rw[Qb ha];rcases List.mem_cons.1 hc with e | e
   ·exact .inl (e.trans ha)
   ·rcases ih c e with h | ⟨x,hx,vV⟩
    ·exact .inl h
    ·exact .inr ⟨x,mQ _ hx,vV⟩
  ·rw[Qc ha];have hne:=qf r
   cases hr:bl r with
   | nil=>exact absurd hr hne
   | cons y ys=>
    rw[hr] at ih;rcases List.mem_cons.1 hc with e | e
    ·exact .inr ⟨a::y,by simp,by simp[e]⟩
    ·rcases ih c e with h | ⟨x,hx,vV⟩
     ·exact .inl h
     ·rcases List.mem_cons.1 hx with rfl | hx
      ·exact .inr ⟨a::x,by simp,by simp[vV]⟩
      ·exact .inr ⟨x,by simp[hx],vV⟩
theorem aLK{c:UInt8}(h:mI c=true):sT c=true:=by
 unfold mI at h;have hl:∀ c:UInt8,q9 c=true\/nL c=true->cls c=3:=by
  intro c h;have hne:¬ (c=32\/c=9\/c=10)/\c≠35:=by
   constructor
   ·rintro (rfl | rfl | rfl)<;>revert h<;>decide
   ·rintro rfl;revert h;decide
  unfold cls;rw[Qc hne.1,Qc hne.2,Qb (by rcases h with h | h<;>simp[h])]
 simp only[Bool.or_eq_true,beq_iff_eq] at h;unfold sT;rcases h with h | h
 ·rw[hl c h];rfl
 ·subst h;decide
theorem aPQ{c:UInt8}(h:q9 c=true\/nL c=true):cls c=3:=by
 have hne:¬ (c=32\/c=9\/c=10)/\c≠35:=by
  constructor
  ·rintro (rfl | rfl | rfl)<;>revert h<;>decide
  ·rintro rfl;revert h;decide
 unfold cls;rw[Qc hne.1,Qc hne.2,Qb (by rcases h with h | h<;>simp[h])]
theorem aLX{x:List UInt8}(h:bX x=true\/x = [42]):∀ c∈x,sT c=true:=by
 rcases h with h | rfl
 ·unfold bX at h;simp only[Bool.and_eq_true] at h;exact λc hc=>aLK (List.all_eq_true.1 h.2 c hc)
 ·intro c hc;simp at hc;subst hc;decide
theorem aLY{x:List UInt8}(h:bX x=true\/x = [42]):∃ c r,x=c::r/\cls c=3:=by
 rcases h with h | rfl
 ·unfold bX at h;simp only[Bool.and_eq_true,Qa,Bool.not_eq_true',beq_eq_false_iff_ne] at h
  cases x with
  | nil=>simp at h
  | cons c r=>
   refine⟨c,r,rfl,aPQ ?_⟩;have h1:=List.all_eq_true.1 h.2 c (by simp);have h2:=h.1.1.2;simp only[List.head?_cons,ne_eq,Option.some.injEq] at h2;simp only[mI,Bool.or_eq_true,beq_iff_eq] at h1;rcases h1 with h1 | h1
   ·exact h1
   ·exact absurd h1 h2
 ·exact⟨42,[],rfl,by decide⟩
theorem Lu:∀ (s:List UInt8),∃ h t,bl s=h::t/\(∀ c r,h=c::r->∃ r',s=c::r'):=by
 intro s
 cases s with
 | nil=>exact⟨[],[],rfl,λc r h=>by cases h⟩
 | cons a r=>
  rw[bl];by_cases ha:a=46
  ·rw[Qb ha];exact⟨[],_,rfl,λc r h=>by cases h⟩
  ·rw[Qc ha];have hne:=qf r
   cases hr:bl r with
   | nil=>exact absurd hr hne
   | cons x xs=>exact⟨a::x,xs,rfl,λc r' h=>by cases h;exact⟨_,rfl⟩⟩
theorem zC{s:List UInt8}(h:al s=true):s.length<=60/\(s = [46]\/∃ c r,s=c::r/\cls c=3/\s.all sT=true):=by
 unfold al at h;split at h
 ·rename_i e;subst e;exact⟨by decide,.inl rfl⟩
 ·split at h
  ·cases h
  ·rename_i py;have hg:=Ps _ _ _ h;have hl:∀ x∈bl s,bX x=true\/x = [42]:=λx hx=>(hg x (List.mem_reverse.2 hx)).symm;obtain⟨a,t,e1,e2⟩:=Lu s;obtain⟨c,r,rfl,hc⟩:=aLY (hl a (by rw[e1];simp));obtain⟨r',rfl⟩:=e2 c r rfl;refine⟨by omega,.inr ⟨c,r',rfl,hc,List.all_eq_true.2 λb hb=>?_⟩⟩;rcases aPY _ b hb with rfl | ⟨x,hx,cF⟩
   ·decide
   ·exact aLX (hl x hx) b cF
theorem O9{k:Nat}(h:k<10):nL (UInt8.ofNat (48+k))=true/\(UInt8.ofNat (48+k)).toNat=48+k:=by
 have:k=0\/k=1\/k=2\/k=3\/k=4\/k=5\/k=6\/k=7\/k=8\/k=9:=by omega
 rcases this with rfl | rfl | rfl | rfl | rfl | rfl | rfl | rfl | rfl | rfl<;>exact⟨by decide,by decide⟩
theorem I0(n:Nat):(nc n).all nL=true/\nc n≠[]/\dec (nc n)=n/\(1<=n->(nc n).head?≠some 48)/\(n<10->(nc n).length=1):=by
 induction n using Nat.strongRecOn with
 | ind n ih=>
  rw[nc];split
  ·rename_i h;have hd:=O9 h;refine⟨by rw[List.all_cons,hd.1];rfl,by simp,by show 10 * 0+((UInt8.ofNat (48+n)).toNat - 48)=n;rw[hd.2];omega,λh1=>?_,λ_=>rfl⟩;simp only[List.head?_cons,ne_eq,Option.some.injEq];intro e
   have:=Qd UInt8.toNat e
   rw[hd.2] at this;simp at this;omega
  ·rename_i h;obtain⟨i1,i2,i3,i4,_⟩:=ih (n / 10) (by omega);have hd:=O9 (k:=n % 10) (by omega);refine⟨by rw[List.all_append,i1,List.all_cons,hd.1];rfl,by simp,?_,λ_=>?_,λh2=>absurd h2 h⟩
   ·rw[Zq,i3,hd.2];omega
   ·rw[aoY i2];exact i4 (by omega)
def cO(n:Int):List UInt8:=nc n.toNat
def tH(d:Datum):List (List UInt8):=[d.text,cO d.n,cO d.m]
def sW(g:Sig):List (List UInt8):=[g.zone,cO g.key,cO g.alg,cO g.frm,cO g.til,cO g.sum]
def Bu(s:Signed):List (List UInt8):=[s.set.name,cO s.set.type,cO s.set.life,cO s.set.data.length]++(s.set.data.flatMap tH++s.sigs.flatMap sW)
def gr(l:List (List UInt8)):List UInt8:=l.flatMap λf=>f ++ [47]
def jm(s:Signed):List UInt8:=gr (Bu s)
theorem TP:∀ (x y r q:List UInt8),47∉x->47∉y->x++47::r=y++47::q->x=y/\r=q
 | [],[],r,q,_,_,h=>⟨rfl,by simpa using h⟩
 | [],b::y,r,q,_,hy,h=>by
   simp only[List.nil_append,List.cons_append,List.cons.injEq] at h;exact absurd (h.1 ▸ List.mem_cons_self) hy
 | a::x,[],r,q,hx,_,h=>by
   simp only[List.nil_append,List.cons_append,List.cons.injEq] at h;exact absurd (h.1 ▸ List.mem_cons_self) hx
 | a::x,b::y,r,q,hx,hy,h=>by
   simp only[List.cons_append,List.cons.injEq] at h;obtain⟨h1,h2⟩:=TP x y r q (λhm=>hx (mQ _ hm)) (λhm=>hy (mQ _ hm)) h.2;exact⟨by rw[h.1,h1],h2⟩
theorem Br(f:List UInt8)(l:List (List UInt8)):gr (f::l)=f++47::gr l:=by simp[gr]
theorem Pb:∀ (a b:List (List UInt8)),(∀ x∈a,47∉x)->(∀ x∈b,47∉x)->gr a=gr b->a=b
 | [],[],_,_,_=>rfl
 | [],f::b,_,_,h=>by rw[Br] at h;simp[gr] at h
 | f::a,[],_,_,h=>by rw[Br] at h;simp[gr] at h
 | f::a,g::b,ha,hb,h=>by
   rw[Br,Br] at h;obtain⟨h1,h2⟩:=TP f g _ _ (ha f (by simp)) (hb g (by simp)) h;rw[h1,Pb a b (λx hx=>ha x (mQ _ hx)) (λx hx=>hb x (mQ _ hx)) h2]
theorem qI{a b:Int}(ha:0<=a)(hb:0<=b)(h:cO a=cO b):a=b:=by
 have h1:=(I0 a.toNat).2.2.1;have h2:=(I0 b.toNat).2.2.1;unfold cO at h;rw[h] at h1;omega
theorem qJ(a:Int):47∉cO a:=λhm=>by
 have h1:=(I0 a.toNat).1
 have:=List.all_eq_true.1 h1 47 hm
 revert this;decide
structure Plain47(s:Signed):Prop where
 name:47∉s.set.name
 type:0<=s.set.type
 life:0<=s.set.life
 data:∀ d∈s.set.data,47∉d.text/\0<=d.n/\0<=d.m
 sigs:∀ g∈s.sigs,47∉g.zone/\0<=g.key/\0<=g.alg/\0<=g.frm/\0<=g.til/\0<=g.sum
theorem Plain47.fields{s:Signed}(h:Plain47 s):∀ x∈Bu s,47∉x:=λx hx=>by
 unfold Bu at hx;rcases List.mem_append.1 hx with hx | hx
 ·simp only[List.mem_cons,Qh,or_false] at hx;rcases hx with rfl | rfl | rfl | rfl
  ·exact h.name
  ·exact qJ _
  ·exact qJ _
  ·exact qJ _
 ·rcases List.mem_append.1 hx with hx | hx
  ·obtain⟨d,hd,hx⟩:=List.mem_flatMap.1 hx;simp only[tH,List.mem_cons,Qh,or_false] at hx;rcases hx with rfl | rfl | rfl
   ·exact (h.data d hd).1
   ·exact qJ _
   ·exact qJ _
  ·obtain⟨g,hg,hx⟩:=List.mem_flatMap.1 hx;simp only[sW,List.mem_cons,Qh,or_false] at hx;rcases hx with rfl | rfl | rfl | rfl | rfl | rfl
   ·exact (h.sigs g hg).1
   ·exact qJ _
   ·exact qJ _
   ·exact qJ _
   ·exact qJ _
   ·exact qJ _
theorem O5:∀ (a b:List Datum) (r q:List (List UInt8)),a.length=b.length->(∀ d∈a,0<=d.n/\0<=d.m)->(∀ d∈b,0<=d.n/\0<=d.m)->a.flatMap tH++r=b.flatMap tH++q->a=b/\r=q
 | [],[],r,q,_,_,_,h=>⟨rfl,by simpa using h⟩
 | [],_::_,_,_,hl,_,_,_=>by simp at hl
 | _::_,[],_,_,hl,_,_,_=>by simp at hl
 | x::a,y::b,r,q,hl,ha,hb,h=>by
   simp only[List.flatMap_cons,tH,List.cons_append,List.nil_append,List.cons.injEq] at h;obtain⟨h1,h2,h3,h4⟩:=h;obtain⟨h5,h6⟩:=O5 a b r q (by simpa using hl) (λd hd=>ha d (mQ _ hd)) (λd hd=>hb d (mQ _ hd)) h4;have hx:=ha x (by simp);have hy:=hb y (by simp);have e:x=y:=by
    obtain⟨_,_,_⟩:=x;obtain⟨_,_,_⟩:=y;simp only at h1 h2 h3 hx hy;rw[h1,qI hx.1 hy.1 h2,qI hx.2 hy.2 h3]
   exact⟨by rw[e,h5],h6⟩
theorem TN:∀ (a b:List Sig),(∀ g∈a,0<=g.key/\0<=g.alg/\0<=g.frm/\0<=g.til/\0<=g.sum)->(∀ g∈b,0<=g.key/\0<=g.alg/\0<=g.frm/\0<=g.til/\0<=g.sum)->a.flatMap sW=b.flatMap sW->a=b
 | [],[],_,_,_=>rfl
 | [],_::_,_,_,h=>by simp[sW] at h
 | _::_,[],_,_,h=>by simp[sW] at h
 | x::a,y::b,ha,hb,h=>by
   simp only[List.flatMap_cons,sW,List.cons_append,List.nil_append,List.cons.injEq] at h;obtain⟨h1,h2,h3,h4,h5,h6,h7⟩:=h;have hx:=ha x (by simp);have hy:=hb y (by simp);have e:x=y:=by
    obtain⟨_,_,_,_,_,_⟩:=x;obtain⟨_,_,_,_,_,_⟩:=y;simp only at h1 h2 h3 h4 h5 h6 hx hy;rw[h1,qI hx.1 hy.1 h2,qI hx.2.1 hy.2.1 h3,qI hx.2.2.1 hy.2.2.1 h4,qI hx.2.2.2.1 hy.2.2.2.1 h5,qI hx.2.2.2.2 hy.2.2.2.2 h6]
   rw[e,TN a b (λg hg=>ha g (mQ _ hg)) (λg hg=>hb g (mQ _ hg)) h7]
theorem Se{s t:Signed}(hs:Plain47 s)(ht:Plain47 t)(h:jm s=jm t):s=t:=by
 have h:=Pb _ _ hs.fields ht.fields h;unfold Bu at h;simp only[List.cons_append,List.nil_append,List.cons.injEq] at h;obtain⟨h1,h2,h3,h4,h5⟩:=h;have e4:=qI (by omega) (by omega) h4;obtain⟨h6,h7⟩:=O5 _ _ _ _ (by omega) (λd hd=>(hs.data d hd).2) (λd hd=>(ht.data d hd).2) h5;have h8:=TN _ _ (λg hg=>(hs.sigs g hg).2) (λg hg=>(ht.sigs g hg).2) h7;have e2:=qI hs.type ht.type h2;have e3:=qI hs.life ht.life h3;obtain⟨⟨_,_,_,_⟩,_⟩:=s;obtain⟨⟨_,_,_,_⟩,_⟩:=t;simp only at h1 e2 e3 h6 h8;rw[h1,e2,e3,h6,h8]
end Np
section
open Go.RowKit
section
variable {P:Program} (w:World)
theorem a9J(base:Nat)(t u ty e:TypeId)(i:TypeInfo)(ht:P.underlying t=some (.slice e))(hu:P.underlying u=some .string)(hi:P.info? e=some i)(hz:i.zero=some (.int .u8 0))
 (l9:i.size=1) (ip:i.bytes=1) (v:Value) (n:Nat) (xs:List Value) (hown:w.ownsRow base e 1 v n xs) (s:ByteArray) (kf:n+s.size<=maxLen) (no:n+s.size<=140737488355328) (dM:base<=w.heap.size) :
 ∃ v' w',(Builtin.append_ #[t,u] ty #[v,.string s]).run P w = .ok v' w'/\w'.ownsRow base e 1 v' (n+s.size) (xs++Lib.strCells s)/\w.grownBy w' v.ownBlock/\(v'.ownBlock=v.ownBlock\/v'.ownBlock=some w.heap.size)/\(v' = .slice none 0 0↔v = .slice none 0 0/\s.size=0):=by
 obtain⟨v',w',cY,h2,h3,h4⟩:=Lib.run_append_own_string (P:=P) w base t u ty e i ht hu hi hz l9 ip v n xs hown s kf no dM;refine⟨v',w',cY,h2,h3,?_,h4⟩;have bJX:n+s.size<=9223372036854775807:=by simp only[maxLen] at kf;omega
 rcases hown.2 with ⟨rfl,rfl⟩ | ⟨g,cap,cur,rfl,P3,hg,lu,fW,hcs,Rw⟩
 ·by_cases hm:s.size=0
  ·exact .inl (by rw[h4.2 ⟨rfl,hm⟩])
  ·have hr:=run_append_nil_string (P:=P) w t u ty e i (.int .u8 0) ht hu hi hz s (by omega) (by omega) (by rw[ip];omega);rw[hr] at cY;injection cY with h5 _
   exact .inr (by rw[<-h5];rfl)
 ·by_cases azZ:n+s.size<=cap
  ·have hr:=Lib.run_append_room_string (P:=P) w t u ty e i ht hu hi l9 g n cap cur hg s azZ (by omega);rw[hr] at cY;injection cY with h5 _
   exact .inl (by rw[<-h5];rfl)
  ·have holds:∀ j u,xs[j]?=some u->w.cell? ((⟨g,0,none⟩:Addr).add j)=some u:=hown.cells (g:=g) rfl;have hr:=Lib.run_append_grow_string (P:=P) w t u ty e i (.int .u8 0) ht hu hi hz ⟨g,0,none⟩ n cap xs (by rw[l9];exact hown.1) holds s (by omega) (by omega) (by rw[ip];exact growslice_fits (by omega) (by omega));rw[hr] at cY;injection cY with h5 _
   exact .inr (by rw[<-h5];rfl)
theorem bsK{ops:Array Oper}{rest:List Oper}{o:Oper}{a:Act}{Q:Exit->Act->World->Prop}(gX:o.guard=none)(sl x:Operand)(t u:TypeId)
 (ho:o.op = .call { callee:=.builtin .append,args:=#[sl,x],argTypes:=#[t,u] })
 (base:Nat) (e:TypeId) (i:TypeInfo) (ht:P.underlying t=some (.slice e)) (hu:P.underlying u=some .string) (hi:P.info? e=some i) (hz:i.zero=some (.int .u8 0)) (l9:i.size=1) (ip:i.bytes=1)
 (v:Value) (n:Nat) (xs:List Value) (hs:a.eval sl=v) (hown:w.ownsRow base e 1 v n xs) (s:ByteArray) (hx:a.eval x = .string s) (kf:n+s.size<=maxLen) (no:n+s.size<=140737488355328) (dM:base<=w.heap.size)
 (h:∀ v' w',w'.ownsRow base e 1 v' (n+s.size) (xs++Lib.strCells s)->w.grownBy w' v.ownBlock->(v'.ownBlock=v.ownBlock\/v'.ownBlock=some w.heap.size)->(v' = .slice none 0 0↔v = .slice none 0 0/\s.size=0)->wpList P ops Q rest (a.put o.dst v') w'):wpList P ops Q (o::rest) a w:=by
 obtain⟨v',w',hr,h2,h3,h4,h5⟩:=a9J (P:=P) w base t u o.type e i ht hu hi hz l9 ip v n xs hown s kf no dM;refine wpList_plain gX λK hK=>?_;unfold Oper.wp execOp;simp only[ho,resolve,invoke,builtin,Sem.run_bind,Sem.run_pure,Result.andThen_ok,List.map_toArray,List.map_cons,List.map_nil,hs,hx,hr];exact hK _ _ (h v' w' h2 h3 h4 h5)
end
theorem Tryz.infoByte:(prog.info? 5).map (λi=>(i.zero,i.size,i.bytes))=some (some (.int .u8 0),1,1):=by kernel_rfl
end
end Go.Proofs.YtfnopgdcaanaiaaGreatDoor
namespace Go.Proofs
open YtfnopgdcaanaiaaGreatDoor Tryz
open Go.Shelf
def Tryz.laysM171_ren:Go.Shelf.Ren:=⟨fun | 171=>132 | 243=>211 | 246=>284 | 283=>285 | 284=>286 | 285=>287 | 286=>288 | 129=>260 | 317=>338 | 318=>339 | 319=>340 | 320=>341 | 337=>360 | 338=>361 | n=>n,fun | 3=>3 | 9=>9 | 2=>2 | 4=>4 | 171=>328 | 0=>0 | 53=>48 | 37=>196 | 5=>5 | 173=>330 | 212=>368 | 51=>92 | 20=>20 | 213=>369 | 46=>249 | 232=>384 | 233=>385 | n=>n,fun | 17=>1 | 18=>3 | 19=>4 | n=>n⟩
theorem Tryz.laysM171:Go.Proofs.LaysM.n171 Tryz.prog Tryz.laysM171_ren:={
 mixed:=by kernel_rfl
 f129:=func260.trans (agZ)
 f171:=func132.trans (agZ)
 f243:=func211.trans (agZ)
 f246:=func284.trans (agZ)
 f283:=func285.trans (agZ)
 f284:=func286.trans (agZ)
 f285:=func287.trans (agZ)
 f286:=func288.trans (agZ)
 f317:=func338.trans (agZ)
 f318:=func339.trans (agZ)
 f319:=func340.trans (agZ)
 f320:=func341.trans (agZ)
 f337:=func360.trans (agZ)
 f338:=func361.trans (agZ)
 t0:=underlying0
 a0:=isAgg0
 z0:=Tryz.sizeOf0
 v0:=Tryz.zeroValue0
 t2:=underlying2
 a2:=isAgg2
 z2:=Tryz.sizeOf2
 v2:=Tryz.zeroValue2
 t3:=underlying3
 a3:=isAgg3
 z3:=Tryz.sizeOf3
 v3:=Tryz.zeroValue3
 t4:=underlying4
 a4:=isAgg4
 z4:=Tryz.sizeOf4
 v4:=Tryz.zeroValue4
 t5:=underlying5
 a5:=isAgg5
 z5:=Tryz.sizeOf5
 v5:=Tryz.zeroValue5
 t9:=underlying9
 a9:=isAgg9
 z9:=Tryz.sizeOf9
 v9:=Tryz.zeroValue9
 t20:=underlying20
 a20:=isAgg20
 z20:=Tryz.sizeOf20
 v20:=Tryz.zeroValue20
 t37:=underlying196
 a37:=isAgg196
 z37:=Tryz.sizeOf196
 v37:=Tryz.zeroValue196
 t46:=underlying249
 a46:=isAgg249
 z46:=Tryz.sizeOf249
 v46:=Tryz.zeroValue249
 t51:=underlying92
 a51:=isAgg92
 z51:=Tryz.sizeOf92
 v51:=Tryz.zeroValue92
 t53:=underlying48
 a53:=isAgg48
 z53:=Tryz.sizeOf48
 v53:=Tryz.zeroValue48
 t171:=underlying328
 a171:=isAgg328
 z171:=Tryz.sizeOf328
 v171:=Tryz.zeroValue328
 t173:=underlying330
 a173:=isAgg330
 z173:=Tryz.sizeOf330
 v173:=Tryz.zeroValue330
 t212:=underlying368
 a212:=isAgg368
 z212:=Tryz.sizeOf368
 v212:=Tryz.zeroValue368
 t213:=underlying369
 a213:=isAgg369
 z213:=Tryz.sizeOf369
 t232:=underlying384
 a232:=isAgg384
 z232:=Tryz.sizeOf384
 v232:=Tryz.zeroValue384
 t233:=underlying385
 a233:=isAgg385
 z233:=Tryz.sizeOf385
 v233:=Tryz.zeroValue385
 g17:=by kernel_rfl
 g18:=by kernel_rfl
 g19:=by kernel_rfl
 i0:=by kernel_rfl
 i2:=by kernel_rfl
 i3:=by kernel_rfl
 i4:=by kernel_rfl
 i5:=by kernel_rfl
 i9:=by kernel_rfl
 i20:=by kernel_rfl
 i37:=by kernel_rfl
 i46:=by kernel_rfl
 i51:=by kernel_rfl
 i53:=by kernel_rfl
 i171:=by kernel_rfl
 i173:=by kernel_rfl
 i212:=by kernel_rfl
 i232:=by kernel_rfl
 i233:=by kernel_rfl
 m17:=by kernel_rfl
 m18:=by kernel_rfl
 m19:=by kernel_rfl }
open Go.RowKit Go.Sort Go.Lib in
theorem Tryz.strconv_Itoa(n:Int)(h0 : -9223372036854775808<=n)(h1:n<=9223372036854775807)(w:World)(CF:Lib.TabIs Tryz.prog w "internal/strconv.uint64pow10" .u64 Lib.pow10Tab) :
 Calls Tryz.prog 132 #[.int .i64 n] w λe w'=>e = .returned (.string ⟨(Lib.itoa n).toArray⟩)/\∃ k os,w'=grow (w.drewN k) os:=Any.strconv_Itoa Tryz.laysM171 n h0 h1 w CF
end Go.Proofs
namespace Go.Proofs.YtfnopgdcaanaiaaGreatDoor
open Go.Proofs.Tryz
section
open Go.RowKit Go.Sort Go.Lib
theorem acZ(u:Nat)(CI:u<18446744073709551616)(w:World)(CF:Lib.TabIs prog w "internal/strconv.uint64pow10" .u64 Lib.pow10Tab) :
 Calls prog 212 #[.int .u64 u,.int .i64 10] w λe w'=>e = .returned (.string ⟨(Lib.decDigits u).toArray⟩)/\∃ k os,w'=grow (w.drewN k) os:=by
 have wP:∀ w,1<=u->Lib.TabIs prog w "internal/strconv.uint64pow10" .u64 Lib.pow10Tab->Calls prog 286 #[.int .u64 u] w λe w'=>e = .returned (.int .i64 (Lib.nDigits u))/\w'=w:=λw h1 h=>Any.internal_strconv_numDigits { Tryz.laysM171 with } u h1 CI w h;by_cases hs:u<100
 ·have KG:∀ w,Calls prog 285 #[.int .i64 u] w λe w'=>e = .returned (.string ⟨(Lib.decDigits u).toArray⟩)/\w'=w:=λw=>Any.internal_strconv_small { Tryz.laysM171 with } u hs w;go_enter func212,ntmps212;go_wp2_with fail;refine (KG _).mono ?_;rintro e w' ⟨rfl,rfl⟩;go_wp2_with fail;go_ret;exact⟨rfl,0,#[],by simp[World.drewN_zero]⟩
 ·have um:1<=u:=by omega
  have bKY:Lib.nDigits u<=20:=by have:=Lib.numDigits_eq u um CI;split at this<;>omega
  have ai:Lib.nDigits u<=24:=by omega
  have iN:prog.arrayLen 328=24:=by simp[Program.arrayLen,underlying328]
  have fw:∀ W,(Instr.sliceAt 328 (.pointer (some ⟨w.heap.size,0,none⟩)) none (some (.int .i64 (Lib.nDigits u:Int))) none).run prog W = .ok (.slice (some ⟨w.heap.size,0,none⟩) (Lib.nDigits u) 24) W:=λW=>by
   rw[run_sliceAt_array_h W 328 ⟨w.heap.size,0,none⟩ (by simp[Program.arrayLen,Program.elem,underlying328]) .i64 (Lib.nDigits u:Int) (by omega) (by rw[iN];omega)];go_simp
  have Jn:=Lib.holds_zero0 w 328 (Lib.nDigits u) (by omega);have Qm:Calls prog 287 #[.slice (some ⟨w.heap.size,0,none⟩) (Array.replicate (Lib.nDigits u) (0:UInt8)).size 24,.int .u64 u] (w.alloc (.cells Lib.zeros24 328)) λe w'=>e = .returned (.tuple #[])/\∃ (n v':Nat) (dk:Array UInt8),w'=(putRow (λ(b:UInt8)=>Value.int .u8 (b.toNat:Int)) (w.alloc (.cells Lib.zeros24 328)) w.heap.size 0 dk).drewN n/\FmtInv (Array.replicate (Lib.nDigits u) (0:UInt8)).size u 0 v' dk:=Any.internal_strconv_formatBase10 { Tryz.laysM171 with } w.heap.size 0 24 u (Array.replicate (Lib.nDigits u) 0) (w.alloc (.cells Lib.zeros24 328)) Jn (by rw[Array.size_replicate];exact Lib.lt_pow_nDigits u) CI (by rw[Array.size_replicate];omega);rw[Array.size_replicate] at Qm;have MS:=jq Jn;clear Jn iN;go_enter func212,ntmps212;go_wp2_with fail;refine (wP _ um (Lib.tabIs_alloc CF _)).mono ?_;rintro e w' ⟨rfl,rfl⟩;go_wp2_with fail;refine Qm.mono ?_;rintro e w' ⟨rfl,k,v',dk,rfl,hF⟩;have hcv:(convert 196 9 (.slice (some ⟨w.heap.size,0,none⟩) (Lib.nDigits u) 24)).run prog ((putRow (λ(b:UInt8)=>Value.int .u8 (b.toNat:Int)) (w.alloc (.cells Lib.zeros24 328)) w.heap.size 0 dk).drewN k) = .ok (.string ⟨(Lib.decDigits u).toArray⟩) ((putRow (λ(b:UInt8)=>Value.int .u8 (b.toNat:Int)) (w.alloc (.cells Lib.zeros24 328)) w.heap.size 0 dk).drewN k):=by
   have h:=run_convert_bytes_back (P:=prog) ((putRow (λ(b:UInt8)=>Value.int .u8 (b.toNat:Int)) (w.alloc (.cells Lib.zeros24 328)) w.heap.size 0 dk).drewN k) 196 9 5 ⟨w.heap.size,0,none⟩ 24 (Lib.decDigits u) underlying196 underlying5 underlying9 (λj hj=>by
    rw[Lib.row_is_numeral hF j hj,Lib.add_plain,World.cell?_drewN];exact cell?_putRow (λ(b:UInt8)=>Value.int .u8 (b.toNat:Int)) _ w.heap.size 0 _ dk MS.out (by rw[hF.size,Array.size_replicate]) j (by rw[hF.size];rw[Lib.decDigits_length] at hj;exact hj))
   rw[Lib.decDigits_length] at h;exact h
  go_wp2;go_ret;obtain⟨os,eo⟩:=Lib.fin_at w (.cells Lib.zeros24 328) dk k 0;exact⟨rfl,k,os,eo⟩
theorem acJ(u:Nat)(CI:u<18446744073709551616)(w:World)(CF:Lib.TabIs prog w "internal/strconv.uint64pow10" .u64 Lib.pow10Tab) :
 Calls prog 133 #[.int .u64 u,.int .i64 10] w λe w'=>e = .returned (.string ⟨(Lib.decDigits u).toArray⟩)/\∃ k os,w'=grow (w.drewN k) os:=by
 go_enter func133,ntmps133;go_wp2_with fail;refine (acZ u CI w CF).mono ?_;rintro e w' ⟨rfl,k,os,rfl⟩;go_wp2_with fail;go_ret;exact⟨rfl,k,os,rfl⟩
end
namespace Np
theorem Zr:∀ (k n:Nat),n<10 ^ (k+1)->(nc n).length<=k+1:=by
 intro k
 induction k with
 | zero=>intro n h;rw[nc,Qb (by simpa using h)];simp
 | succ k ih=>
  intro n h;rw[nc];split
  ·simp
  ·have:=ih (n / 10) (by rw[Nat.pow_succ] at h;omega)
   simp only[List.length_append,List.length_singleton];omega
end Np
section
open Go.RowKit
def dI(D:Nat->Prop)(w W:World):Prop:=w.heap.size<=W.heap.size/\∀ k,D k->k<w.heap.size/\W.heap[k]?=w.heap[k]?
theorem dI.refl{D:Nat->Prop}{w:World}(h:∀ k,D k->k<w.heap.size):dI D w w:=⟨bQ _,λk e=>⟨h k e,rfl⟩⟩
theorem dI.trans{D:Nat->Prop}{a b c:World}(h:dI D a b)(k:dI D b c):dI D a c:=⟨yQ h.1 k.1,λi e=>⟨(h.2 i e).1,((k.2 i e).2).trans (h.2 i e).2⟩⟩
theorem dI.of_below{D:Nat->Prop}{a b c:World}(h:dI D a b)(k:Below b.heap.size b c):dI D a c:=⟨yQ h.1 k.size,λi e=>⟨(h.2 i e).1,(k.block i (lQ (h.2 i e).1 h.1)).trans (h.2 i e).2⟩⟩
theorem dI.cell{D:Nat->Prop}{w W:World}(h:dI D w W){p:Addr}(hp:D p.block):W.cell? p=w.cell? p:=iQ (h.2 _ hp).2
theorem dI.round{D S:Nat->Prop}{a b c:World}(h:dI D a b)(k:RdStep S b c)(hS:∀ i,S i->¬ D i):dI D a c:=⟨yQ h.1 k.size,λi e=>⟨(h.2 i e).1,(k.keep i (lQ (h.2 i e).1 h.1) (λhs=>hS i hs e)).trans (h.2 i e).2⟩⟩
def Bb{α:Type}(P:Program)(gf:FuncId)(mk:Value->Array Value)(encs:α->Array Value)(xs:List α)(Dr:Nat->Prop)(w:World):Prop:=
 ∀ (l:Nat) (J Jx:List α->(Nat->Prop)->World->Prop) (S:Nat->Prop) (W:World),dI Dr w W->
   fO W.heap.size J->fO W.heap.size Jx->
   (∀ pre x S1 W1,pre ++ [x] <+: xs->J pre S1 W1->(∀ k,S1 k->k<W1.heap.size)->W.heap.size<=W1.heap.size->
     YieldAt Fence.wide 0 P l (encs x) W1 (D9 J Jx pre x S1 W1))->
   (∀ k,S k->¬ Dr k)->(∀ k,S k->k<W.heap.size)->J [] S W->
   CallsIn Fence.wide 0 P gf (mk (.func (.yield l) #[] #[])) W λe W'=>(∃ v,e = .returned v)/\
    ((∃ S',J xs S' W'/\(∀ k,S' k->S k\/W.heap.size<=k))\/(∃ pre S',pre <+: xs/\Jx pre S' W'/\(∀ k,S' k->S k\/W.heap.size<=k)))
theorem bsQ{α:Type}{P:Program}{g:Operand}{ps:Array Tmp}{assign body:Code}{Q:Exit->Act->World->Prop}{a:Act}{w:World}
 {gf:FuncId} {first captured:Array Value} (hg:a.eval g = .func (.func gf) first captured) (eg:∀ args w,(callFunc gf args).run P w = .ok (.enter gf args) w)
 {mk:Value->Array Value} {encs:α->Array Value} {xs:List α} {Dr:Nat->Prop} {w0:World} (ir:∀ y,mk y=first ++ #[y]++captured)
 (hit:Bb P gf mk encs xs Dr w0) (dm:dI Dr w0 w) (dN:∀ x,(encs x).size=ps.size)
 (I:List α->(Nat->Prop)->World->Prop) (Ix:Code->List α->(Nat->Prop)->World->Prop) (A:List α->α->(Nat->Prop)->Act->World->Prop)
 (hI:fO w.heap.size I) (nj:∀ c,fO w.heap.size (Ix c)) (hA:∀ pre x S a' W W',A pre x S a' W->ItStep w.heap.size S W W'->A pre x S a' W')
 (S0:Nat->Prop) (vN:∀ k,S0 k->¬ Dr k) (pC:∀ k,S0 k->k<w.heap.size) (h0:I [] S0 w)
 (JK:∀ (l:Nat) (pre:List α) (x:α) (S:Nat->Prop) (W:World),pre ++ [x] <+: xs->I pre S W->(∀ k,S k->k<W.heap.size)->
   assign.wpIn (Fence.wide.inRound l) 0 P (Exit.then (λa₁ W₁=>∃ S',RdStep S W W₁/\(∀ k,S' k->S k\/W.heap.size<=k)/\(∀ k,S' k->k<W₁.heap.size)/\A pre x S' a₁ W₁) (λ_ _ _=>False))
    { tmps:=(ps.zip (encs x)).foldl (λt (p,v)=>t.setIfInBounds p v) a.tmps,defers:=[] } W)
 (JR:∀ (l:Nat) (pre:List α) (x:α) (S:Nat->Prop) (a₁:Act) (W:World),pre ++ [x] <+: xs->A pre x S a₁ W->(∀ k,S k->k<W.heap.size)->
   body.wpIn (Fence.wide.inRound l) 0 P (qG I Ix (pre ++ [x]) S W) a₁ W)
 (rW:∀ (D:Nat) (S:Nat->Prop) (W:World),w.heap.size<=D->¬ S D->(∀ k,S k->S0 k\/w.heap.size<=k)->I xs S W->W.heap[D]?=some (.deferred (some []))->
   Q .normal { a with defers:={ target:=.collected D,args:=#[] } :: a.defers } W)
 (jl:∀ (D:Nat) (c:Code) (pre:List α) (S:Nat->Prop) (W:World),w.heap.size<=D->¬ S D->(∀ k,S k->S0 k\/w.heap.size<=k)->pre <+: xs->Ix c pre S W->W.heap[D]?=some (.deferred (some []))->
   c.wpIn Fence.wide 0 P Q { a with defers:={ target:=.collected D,args:=#[] } :: a.defers } W) :
 (Code.rangeFunc g ps assign body).wpIn Fence.wide 0 P Q a w:=by
 refine wpIn_rangeFunc ?_;intro fn oC;show ∃ (l:Nat) (mark:List Deferred) (w₁:World) (d:Deferred) (w₁':World) (f:FuncId) (args:Array Value) (w₂:World),(Instr.enterLoop fn a.tmps ps assign body none).run P w = .ok (l,mark) w₁/\_;obtain⟨rec,jj⟩:∃ rec:LoopState->Option Code->Loop,rec=λst pe=>{ state:=st,pending:=pe,fn,tmps:=a.tmps,params:=ps,assign,body,defers:=w.heap.size }:=⟨_,rfl⟩;obtain⟨W1,aB⟩:=afZ ((w.alloc (.deferred (some []))).alloc (.loop (rec .ready none)));have ay:W1.heap.size=w.heap.size+2:=by rw[<-aB];simp
 have gT:W1.heap[w.heap.size+1]?=some (.loop (rec .ready none)):=by
  rw[<-aB];have:=World.alloc_heap_new (w.alloc (.deferred (some []))) (.loop (rec .ready none));rwa [World.size_alloc] at this
 have Ju:W1.heap[w.heap.size]?=some (.deferred (some [])):=by
  rw[<-aB];exact (Below.heap_alloc _ _ _ (by simp)).trans (World.alloc_heap_new w _)
 have ld:I [] S0 W1:=by rw[<-aB];exact hI _ _ _ _ (hI _ _ _ _ h0 (zz _)) (zz _)
 have av:dI Dr w0 W1:=by
  rw[<-aB];exact dm.of_below (((vQ _ w).alloc (bQ _) _).alloc (by simp) _)
 refine⟨w.heap.size+1,[{ target:=.collected w.heap.size,args:=#[] }],W1,{ target:=.fn (.func gf) captured,args:=first ++ #[.func (.yield (w.heap.size+1)) #[] #[]] },W1,gf,
  first ++ #[.func (.yield (w.heap.size+1)) #[] #[]]++captured,W1,?_,?_,?_,?_,λh=>by simp[Fence.wide] at h,?_⟩
 ·rw[<-aB,jj];exact run_enterLoop_outer _ _ _ _ _
 ·simp only[resolve,hg];simp[go_sem]
 ·intro f' _;trivial
 ·simp[invoke,go_sem,eg]
 ·rw[<-ir];have key:=hit (w.heap.size+1)
   (λpre Si W=>∃ S:Nat->Prop,(∀ k,Si k↔S k\/k=w.heap.size+1)/\(¬ S w.heap.size)/\(¬ S (w.heap.size+1))/\(∀ k,S k->S0 k\/w.heap.size<=k)/\I pre S W/\W.heap[w.heap.size+1]?=some (.loop (rec .ready none))/\W.heap[w.heap.size]?=some (.deferred (some [])))
   (λpre Si W=>∃ (S:Nat->Prop) (c:Code),(∀ k,Si k↔S k\/k=w.heap.size+1)/\(¬ S w.heap.size)/\(¬ S (w.heap.size+1))/\(∀ k,S k->S0 k\/w.heap.size<=k)/\Ix c pre S W/\W.heap[w.heap.size+1]?=some (.loop (rec .done (some c)))/\W.heap[w.heap.size]?=some (.deferred (some [])))
   (λk=>S0 k\/k=w.heap.size+1) W1 av ?_ ?_ ?_ ?_ ?_ ?_
  ·refine key.mono ?_;rintro e W2 ⟨⟨v,rfl⟩,(⟨S',⟨S,fD,hD,hL,bR,hi,hl,hk⟩,_⟩ | ⟨pre,S',g8,⟨S,c,fD,hD,hL,bR,hi,hl,hk⟩,_⟩)⟩
   ·refine⟨none,_,by have:=run_endLoop (P:=P) hl (by rw[jj];simp);rw[jj] at this;exact this,?_⟩;exact rW _ S _ (bQ _) hD bR (hI _ _ _ _ hi (nM _ (by omega) hL)) ((zQ (by omega)).trans hk)
   ·refine⟨some c,_,by have:=run_endLoop (P:=P) hl (by rw[jj];simp);rw[jj] at this;exact this,?_⟩;exact jl _ c pre S _ (bQ _) hD bR g8 ((nj c) _ _ _ _ hi (nM _ (by omega) hL)) ((zQ (by omega)).trans hk)
  ·rintro pre Si A1 B1 ⟨S,fD,hD,hL,bR,hi,hl,hk⟩ ax;have ab:w.heap.size+1<A1.heap.size:=(eQ.1 hl).1;exact⟨S,fD,hD,hL,bR,hI _ _ _ _ hi (ax.weaken (by omega) (λk e=>(fD k).2 (.inl e))),(ax.keep _ ab (.inl (by omega))).trans hl,(ax.keep _ (by omega) (.inl (by omega))).trans hk⟩
  ·rintro pre Si A1 B1 ⟨S,c,fD,hD,hL,bR,hi,hl,hk⟩ ax;have ab:w.heap.size+1<A1.heap.size:=(eQ.1 hl).1;exact⟨S,c,fD,hD,hL,bR,nj c _ _ _ _ hi (ax.weaken (by omega) (λk e=>(fD k).2 (.inl e))),(ax.keep _ ab (.inl (by omega))).trans hl,(ax.keep _ (by omega) (.inl (by omega))).trans hk⟩
  ·
   rintro pre x Si W bM ⟨S,fD,hD,hL,bR,hi,hl,hk⟩ ed PN;have ab:w.heap.size+1<W.heap.size:=(eQ.1 hl).1;have JD:∀ k,S k->k<W.heap.size:=λk e=>ed k ((fD k).2 (.inl e));have hy:=run_yield (P:=P) (args:=encs x) hl (by rw[jj];exact dN x);rw[jj] at hy;refine⟨fn,_,assign,body,hy,roundIn_of_wpIn oC (wpIn_mono (JK _ pre x S W bM hi JD) ?_)⟩;intro e a1 Wa hq
   cases e with
   | normal=>
    obtain⟨S1,gJ,bU,KE,Jj⟩:=hq;have Ck:¬ S1 w.heap.size:=λe=>by rcases bU _ e with e | e;exact hD e;omega
    have wL:¬ S1 (w.heap.size+1):=λe=>by rcases bU _ e with e | e;exact hL e;omega
    have Ce:Wa.heap[w.heap.size+1]?=some (.loop (rec .ready none)):=(gJ.keep _ ab hL).trans hl;have Kg:Wa.heap[w.heap.size]?=some (.deferred (some [])):=(gJ.keep _ (by omega) hD).trans hk;have Cf:w.heap.size+1<Wa.heap.size:=(eQ.1 Ce).1;refine⟨_,run_beginRound Ce (by rw[jj]),?_⟩;have hb:=JR (w.heap.size+1) pre x S1 a1 (Wa.putObj (w.heap.size+1) (.loop { rec .ready none with state:=.busy })) bM (hA _ _ _ _ _ _ Jj (nM _ (by omega) wL)) (λk e=>by simpa using KE k e);refine wpIn_mono hb ?_;have fin:∀ (jump:Option Code) (W3:World) (S3:Nat->Prop),RdStep S1 (Wa.putObj (w.heap.size+1) (.loop { rec .ready none with state:=.busy })) W3->(∀ k,S3 k->S1 k\/(Wa.putObj (w.heap.size+1) (.loop { rec .ready none with state:=.busy })).heap.size<=k)->(∀ k,S3 k->k<W3.heap.size)->
     (Instr.endRound (w.heap.size+1) jump).run P W3 = .ok (.bool jump.isNone) (W3.putObj (w.heap.size+1) (.loop (rec (if jump.isNone then .ready else .done) jump)))/\
     (W3.putObj (w.heap.size+1) (.loop (rec (if jump.isNone then .ready else .done) jump))).heap[w.heap.size+1]?=some (.loop (rec (if jump.isNone then .ready else .done) jump))/\
     (W3.putObj (w.heap.size+1) (.loop (rec (if jump.isNone then .ready else .done) jump))).heap[w.heap.size]?=some (.deferred (some []))/\
     ¬ S3 w.heap.size/\¬ S3 (w.heap.size+1)/\(∀ k,S3 k->S k\/W.heap.size<=k)/\
     RdStep Si W (W3.putObj (w.heap.size+1) (.loop (rec (if jump.isNone then .ready else .done) jump))):=λjump W3 S3 ft fI eU=>by
     have dF:(Wa.putObj (w.heap.size+1) (.loop { rec .ready none with state:=.busy })).heap[w.heap.size+1]?=some (.loop { rec .ready none with state:=.busy }):=World.putObj_heap_same Cf;have lk:(Wa.putObj (w.heap.size+1) (.loop { rec .ready none with state:=.busy })).heap[w.heap.size]?=some (.deferred (some [])):=(zQ (by omega)).trans Kg;have qT:=(ft.keep _ (by simpa using Cf) wL).trans dF;have oG:=(ft.keep _ (by simp;omega) Ck).trans lk;have ua:=(eQ.1 qT).1
     have:=run_endRound (P:=P) jump qT
     rw[jj] at this |-;have mE:=ft.size;have uk:=gJ.size;simp only[World.putObj_size] at mE fI;refine⟨this,World.putObj_heap_same ua,(zQ (by omega)).trans oG,λe=>?_,λe=>?_,λk e=>?_,?_⟩
     ·rcases fI _ e with e | e;exact Ck e;omega
     ·rcases fI _ e with e | e;exact wL e;omega
     ·rcases fI _ e with e | e
      ·exact bU _ e
      ·right;omega
     ·refine⟨ft.os.trans gJ.os,ft.tape.trans gJ.tape,ft.output.trans gJ.output,by simp;omega,λk hk' Cl=>?_⟩;have nA:k≠w.heap.size+1:=λe=>Cl ((fD k).2 (.inr e));have Cm:¬ S k:=λe=>Cl ((fD k).2 (.inl e));have Kq:¬ S1 k:=λe=>by rcases bU _ e with e | e;exact Cm e;omega
      exact (zQ nA).trans ((ft.keep k (by simp;omega) Kq).trans ((zQ nA).trans (gJ.keep k hk' Cm)))
    have fin2:∀ (S3:Nat->Prop) (W3:World) (o:Obj),(∀ k,S3 k->k<W3.heap.size)->W.heap.size<=W3.heap.size->(∀ k,S3 k->S k\/W.heap.size<=k)->
     (∀ k,(S3 k\/k=w.heap.size+1)->Si k\/W.heap.size<=k)/\(∀ k,(S3 k\/k=w.heap.size+1)->k<(W3.putObj (w.heap.size+1) o).heap.size):=λS3 W3 o h1 h2 h3=>
     ⟨λk e=>by rcases e with e | e;exact (h3 k e).imp (λe'=>(fD k).2 (.inl e')) id;exact .inl ((fD k).2 (.inr e)),λk e=>by
      simp only[World.putObj_size];rcases e with e | e
      ·exact h1 k e
      ·omega⟩
    have sub3:∀ (S3:Nat->Prop),(∀ k,S3 k->S k\/W.heap.size<=k)->∀ k,S3 k->S0 k\/w.heap.size<=k:=λS3 h k e=>by
     rcases h k e with e | e
     ·exact bR k e
     ·right;omega
    rintro e a3 W3 hp
    cases e with
    | normal=>
     obtain⟨S3,ft,fI,eU,pM⟩:=hp;obtain⟨hr,pO,oH,kj,kl,gK,bJ⟩:=fin none W3 S3 ft fI eU;have ay:W.heap.size<=W3.heap.size:=by simpa using bJ.size
     refine⟨_,_,hr,λk=>S3 k\/k=w.heap.size+1,bJ,(fin2 S3 W3 (.deferred none) eU ay gK).1,(fin2 S3 W3 _ eU ay gK).2,.inl ⟨rfl,S3,λ_=>Iff.rfl,kj,kl,sub3 S3 gK,hI _ _ _ _ pM (nM _ (by omega) kl),pO,oH⟩⟩
    | ret=>
     obtain⟨S3,ft,fI,eU,pM⟩:=hp;obtain⟨hr,pO,oH,kj,kl,gK,bJ⟩:=fin (some .ret) W3 S3 ft fI eU;have ay:W.heap.size<=W3.heap.size:=by simpa using bJ.size
     refine⟨_,_,hr,λk=>S3 k\/k=w.heap.size+1,bJ,(fin2 S3 W3 (.deferred none) eU ay gK).1,(fin2 S3 W3 _ eU ay gK).2,.inr ⟨rfl,S3,.ret,λ_=>Iff.rfl,kj,kl,sub3 S3 gK,nj _ _ _ _ _ pM (nM _ (by omega) kl),pO,oH⟩⟩
    | exit id=>
     obtain⟨S3,ft,fI,eU,pM⟩:=hp;obtain⟨hr,pO,oH,kj,kl,gK,bJ⟩:=fin (some (.exit id)) W3 S3 ft fI eU;have ay:W.heap.size<=W3.heap.size:=by simpa using bJ.size
     refine⟨_,_,hr,λk=>S3 k\/k=w.heap.size+1,bJ,(fin2 S3 W3 (.deferred none) eU ay gK).1,(fin2 S3 W3 _ eU ay gK).2,.inr ⟨rfl,S3,.exit id,λ_=>Iff.rfl,kj,kl,sub3 S3 gK,nj _ _ _ _ _ pM (nM _ (by omega) kl),pO,oH⟩⟩
    | goto t=>exact hp.elim
    | panic ch=>exact hp.elim
    | outgrown=>exact hp.elim
   | ret=>exact hq.elim
   | exit id=>exact hq.elim
   | goto t=>exact hq.elim
   | panic ch=>exact hq.elim
   | outgrown=>exact hq.elim
  ·rintro k (e | rfl)
   ·exact vN k e
   ·exact λh=>by have h1:=(dm.2 _ h).1;have h2:=dm.1;omega
  ·rintro k (e | rfl)
   ·have:=pC k e;omega
   ·omega
  ·exact⟨S0,λ_=>Iff.rfl,λe=>by have:=pC _ e;omega,λe=>by have:=pC _ e;omega,λ_ e=>.inl e,ld,gT,Ju⟩
theorem Dd{α:Type}{P:Program}{g:Operand}{ps:Array Tmp}{assign body:Code}{Q:Exit->Act->World->Prop}{a:Act}{w:World}
 {gf:FuncId} {first captured:Array Value} (hg:a.eval g = .func (.func gf) first captured) (eg:∀ args w,(callFunc gf args).run P w = .ok (.enter gf args) w)
 {mk:Value->Array Value} {encs:α->Array Value} {xs:List α} {Dr:Nat->Prop} {w0:World} (ir:∀ y,mk y=first ++ #[y]++captured)
 (hit:Bb P gf mk encs xs Dr w0) (dm:dI Dr w0 w) (dN:∀ x,(encs x).size=ps.size)
 (I:List α->(Nat->Prop)->World->Prop) (Ix:Code->List α->(Nat->Prop)->World->Prop)
 (hI:fO w.heap.size I) (nj:∀ c,fO w.heap.size (Ix c))
 (S0:Nat->Prop) (vN:∀ k,S0 k->¬ Dr k) (pC:∀ k,S0 k->k<w.heap.size) (h0:I [] S0 w)
 (KD:∀ (l0:Nat) (pre:List α) (x:α) (S:Nat->Prop) (W:World),pre ++ [x] <+: xs->I pre S W->(∀ k,S k->k<W.heap.size)->
   assign.wpIn (Fence.wide.inRound l0) 0 P (Exit.then (λa₁ W₁=>∃ S',RdStep S W W₁/\(∀ k,S' k->S k\/W.heap.size<=k)/\(∀ k,S' k->k<W₁.heap.size)/\
    ∀ l W₂,ItStep w.heap.size S' W₁ W₂->body.wpIn (Fence.wide.inRound l) 0 P (qG I Ix (pre ++ [x]) S' W₂) a₁ W₂) (λ_ _ _=>False))
    { tmps:=(ps.zip (encs x)).foldl (λt (p,v)=>t.setIfInBounds p v) a.tmps,defers:=[] } W)
 (rW:∀ (D:Nat) (S:Nat->Prop) (W:World),w.heap.size<=D->¬ S D->(∀ k,S k->S0 k\/w.heap.size<=k)->I xs S W->W.heap[D]?=some (.deferred (some []))->
   Q .normal { a with defers:={ target:=.collected D,args:=#[] } :: a.defers } W)
 (jl:∀ (D:Nat) (c:Code) (pre:List α) (S:Nat->Prop) (W:World),w.heap.size<=D->¬ S D->(∀ k,S k->S0 k\/w.heap.size<=k)->pre <+: xs->Ix c pre S W->W.heap[D]?=some (.deferred (some []))->
   c.wpIn Fence.wide 0 P Q { a with defers:={ target:=.collected D,args:=#[] } :: a.defers } W) :
 (Code.rangeFunc g ps assign body).wpIn Fence.wide 0 P Q a w:=
 bsQ hg eg ir hit dm dN I Ix (λpre x S a₁ W=>∀ l W₂,ItStep w.heap.size S W W₂->body.wpIn (Fence.wide.inRound l) 0 P (qG I Ix (pre ++ [x]) S W₂) a₁ W₂)
  hI nj (λ_ _ _ _ _ _ h hs l W₂ h2=>h l W₂ (hs.trans h2)) S0 vN pC h0 KD (λl _ _ _ _ W _ h _=>h l W (ItStep.refl _ _ _)) rW jl
end
section
open Go.RowKit
variable {α:Type}
end
section
open Go.RowKit Go.Shelf


end
namespace Np
def re(s:List UInt8):List UInt8:=match s.dropWhile (λc=>c != 46) with
 | []=>[46]
 | _::t=>t
theorem Zw{s:List UInt8}(h:46∉s):s.dropWhile (λc=>c != 46) = []:=by
 induction s with
 | nil=>rfl
 | cons c s ih=>
  rw[List.dropWhile_cons,Qb (by simp only[bne_iff_ne,ne_eq];rintro rfl;exact h (List.mem_cons_self ..)),ih (λk=>h (mQ _ k))]
theorem Zv{a t:List UInt8}(h:46∉a):(a++46::t).dropWhile (λc=>c != 46)=46::t:=by
 induction a with
 | nil=>rfl
 | cons c a ih=>
  rw[List.cons_append,List.dropWhile_cons,Qb (by simp only[bne_iff_ne,ne_eq];rintro rfl;exact h (List.mem_cons_self ..)),ih (λk=>h (mQ _ k))]
theorem ST{s:List UInt8}(h:46∉s):re s = [46]:=by unfold re;rw[Zw h]
theorem SQ{a t:List UInt8}(h:46∉a):re (a++46::t)=t:=by unfold re;rw[Zv h]
theorem Pi{s:List UInt8}(h:46∈s):∃ a t,s=a++46::t/\46∉a:=by
 induction s with
 | nil=>cases h
 | cons c s ih=>
  by_cases hc:c=46
  ·exact⟨[],s,by rw[hc];rfl,by simp⟩
  ·obtain⟨a,t,rfl,ha⟩:=ih ((List.mem_cons.1 h).resolve_left (λk=>hc k.symm));exact⟨c::a,t,rfl,by simp only[List.mem_cons,not_or];exact⟨λe=>hc e.symm,ha⟩⟩
theorem aMQ{x:List UInt8}(h:bX x=true):x≠[]:=by
 rintro rfl;exact absurd h (by decide)
theorem Sk{x:List UInt8}(h:bX x=true):46∉x:=λhm=>by
 unfold bX at h;simp only[Bool.and_eq_true,List.all_eq_true] at h;exact absurd (h.2 46 hm) (by decide)
theorem FK{s:List UInt8}(h:al s=true)(hr:s≠[46]):al (re s)=true/\∃ x,bO s=x::bO (re s):=by
 have h0:=h;rw[Dc,Qc hr] at h;split at h
 ·cases h
 ·rename_i py;simp only[Bool.and_eq_true,Qa] at h;by_cases hd:46∈s
  ·obtain⟨a,t,rfl,ha⟩:=Pi hd;rw[SQ ha];rw[xC,sZ ha] at h;obtain⟨h1,h2⟩:=h;simp only[List.singleton_append,jU,Bool.and_eq_true,List.all_eq_true] at h1;have ht:t≠[46]:=λe=>by
    subst e;exact aMQ (h1.2 [] (by simp[bl])) rfl
   refine⟨?_,a,?_⟩
   ·rw[Dc,Qc ht,Qc (by simp at py;omega)];simp only[Bool.and_eq_true,Qa];refine⟨?_,by simp at h2;omega⟩;have hne:=qf t
    cases hs:bl t with
    | nil=>rfl
    | cons y r=>
     rw[hs] at h1;simp only[jU,Bool.and_eq_true,List.all_eq_true,Bool.or_eq_true];exact⟨.inl (h1.2 y (List.mem_cons_self ..)),λx hx=>h1.2 x (mQ _ hx)⟩
   ·unfold bO;rw[Qc hr,Qc ht,xC,sZ ha];rfl
  ·rw[ST hd];refine⟨rfl,s,?_⟩;unfold bO;rw[Qc hr,Qb rfl,sZ hd]
theorem SV{a b:List UInt8}(h:bO a=bO b):a=b:=yA (by rw[<-rg,<-rg,h])
theorem SU{s z:List UInt8}(h:al s=true)(hz:z≠[])(hu:aX s z=true)(hne:s≠z):s≠[46]/\aX (re s) z=true:=by
 rw[<-ut hz,CQ] at hu;obtain⟨p,hp⟩:=hu;have sB:p≠[]:=λe=>hne (SV (by rw[hp,e];rfl));have hr:s≠[46]:=λe=>by
  subst e
  have:bO [46] = []:=rfl
  rw[this] at hp;exact sB (List.append_eq_nil_iff.1 hp.symm).1
 refine⟨hr,?_⟩;obtain⟨_,x,hx⟩:=FK h hr;rw[<-ut hz,CQ]
 cases p with
 | nil=>exact absurd rfl sB
 | cons y p=>
  rw[hx,List.cons_append,List.cons.injEq] at hp;exact⟨p,hp.2⟩
theorem SR{s:List UInt8}(h:al s=true)(hr:s≠[46]):(bO (re s)).length<(bO s).length:=by
 obtain⟨_,x,hx⟩:=FK h hr;rw[hx];simp
theorem bhJ:∀ xs:List (List UInt8),xs≠[]->(∀ x∈xs,46∉x)->bl (em xs)=xs:=by
 intro xs
 induction xs with
 | nil=>intro h;exact absurd rfl h
 | cons x r ih=>
  intro _ h
  cases r with
  | nil=>exact sZ (h x (List.mem_cons_self ..))
  | cons y r=>
   rw[em,xC,sZ (h x (List.mem_cons_self ..)),ih (by simp) (λz hz=>h z (mQ _ hz))];rfl
theorem aKJ{xs:List (List UInt8)}(hne:xs≠[])(h8:xs.length<=8)(hl:jU xs=true)(py:(em xs).length<=60):al (em xs)=true:=by
 have hd:∀ x∈xs,46∉x:=by
  intro x hx
  cases xs with
  | nil=>cases hx
  | cons y r=>
   simp only[jU,Bool.and_eq_true,List.all_eq_true,Bool.or_eq_true,beq_iff_eq] at hl;rcases List.mem_cons.1 hx with rfl | hx
   ·rcases hl.1 with h | h
    ·exact Sk h
    ·rw[h];simp
   ·exact Sk (hl.2 x hx)
 rw[Dc];split
 ·rfl
 ·rw[Qc (by omega),bhJ xs hne hd,hl];simp[h8]
end Np
end Go.Proofs.YtfnopgdcaanaiaaGreatDoor
namespace Go.Proofs
open YtfnopgdcaanaiaaGreatDoor Tryz
open Go.Shelf
def Tryz.lays156_ren:Go.Shelf.Ren:=⟨fun | 156=>358 | 165=>365 | 166=>129 | 169=>134 | 240=>210 | 241=>366 | 276=>283 | 277=>367 | n=>n,fun | 31=>116 | 9=>9 | 3=>3 | 4=>4 | 0=>0 | 20=>20 | 72=>198 | 76=>201 | 70=>195 | 37=>196 | 75=>200 | 127=>271 | 164=>325 | 5=>5 | 80=>208 | n=>n,fun | n=>n⟩
theorem Tryz.lays156:Go.Proofs.Lays.n156 Tryz.prog Tryz.lays156_ren:={
 mixed:=by kernel_rfl
 f156:=func358.trans (agZ)
 f165:=func365.trans (agZ)
 f166:=func129.trans (agZ)
 f169:=func134.trans (agZ)
 f240:=func210.trans (agZ)
 f241:=func366.trans (agZ)
 f276:=func283.trans (agZ)
 f277:=func367.trans (agZ)
 t0:=underlying0
 a0:=isAgg0
 z0:=Tryz.sizeOf0
 v0:=Tryz.zeroValue0
 t3:=underlying3
 a3:=isAgg3
 z3:=Tryz.sizeOf3
 v3:=Tryz.zeroValue3
 t4:=underlying4
 a4:=isAgg4
 z4:=Tryz.sizeOf4
 v4:=Tryz.zeroValue4
 t9:=underlying9
 a9:=isAgg9
 z9:=Tryz.sizeOf9
 v9:=Tryz.zeroValue9
 t20:=underlying20
 a20:=isAgg20
 z20:=Tryz.sizeOf20
 v20:=Tryz.zeroValue20
 t31:=underlying116
 a31:=isAgg116
 z31:=Tryz.sizeOf116
 v31:=Tryz.zeroValue116
 t37:=underlying196
 a37:=isAgg196
 z37:=Tryz.sizeOf196
 v37:=Tryz.zeroValue196
 t70:=underlying195
 a70:=isAgg195
 z70:=Tryz.sizeOf195
 v70:=Tryz.zeroValue195
 t72:=underlying198
 a72:=isAgg198
 z72:=Tryz.sizeOf198
 v72:=Tryz.zeroValue198
 t75:=underlying200
 a75:=isAgg200
 z75:=Tryz.sizeOf200
 v75:=Tryz.zeroValue200
 t76:=underlying201
 a76:=isAgg201
 z76:=Tryz.sizeOf201
 v76:=Tryz.zeroValue201
 t127:=underlying271
 a127:=isAgg271
 z127:=Tryz.sizeOf271
 v127:=Tryz.zeroValue271
 t164:=underlying325
 a164:=isAgg325
 z164:=Tryz.sizeOf325
 v164:=Tryz.zeroValue325 }
theorem Tryz.Builder_Extra_156:Builder.Extra Tryz.prog Tryz.lays156_ren:={
 sizeBuilder:=by kernel_rfl
 liesBuilder:=by kernel_rfl
 t5:=underlying5
 a5:=isAgg5
 z5:=Tryz.sizeOf5
 v5:=Tryz.zeroValue5
 infoByte:=by kernel_rfl
 cellsByte:=by kernel_rfl
 sizeByte:=by kernel_rfl
 neB5:=by decide }
open Go.RowKit in
theorem Tryz.strings_Join(bk o c:Nat)(xs:List ByteArray)(sep:ByteArray)(w:World)(BU:∀ (j:Nat) x,xs[j]?=some x->w.cell? ⟨bk,o+j,none⟩=some (.string x))(lX:bk<w.heap.size)(hN:xs.length<=140737488355328)(BT:xs.length<=c)(hlen:(Lib.join (xs.map (·.data.toList)) sep.data.toList).length<=140737488355328) :
 Calls Tryz.prog 358 #[.slice (some ⟨bk,o,none⟩) xs.length c,.string sep] w (ahZ w.heap.size w (.string ⟨(Lib.join (xs.map (·.data.toList)) sep.data.toList).toArray⟩)):=Any.strings_Join Tryz.lays156 Tryz.Builder_Extra_156 bk o c xs sep w BU lX hN BT hlen
end Go.Proofs
namespace Go.Proofs.YtfnopgdcaanaiaaGreatDoor
open Go.Proofs.Tryz
section
open Go.RowKit Go.Shelf
theorem Sd:∀ xs:List (List UInt8),Lib.join xs [46]=Np.em xs:=by
 intro xs
 induction xs with
 | nil=>rfl
 | cons x r ih=>
  rw[Lib.join_cons]
  cases r with
  | nil=>simp[Lib.joinTail,Np.em]
  | cons y r=>
   rw[Np.em,<-ih,Lib.join_cons];simp[Lib.joinTail]
theorem aKZ{M:Nat} : ∀ xs:List (List UInt8),(∀ x∈xs,x.length<=M)->(Np.em xs).length<=xs.length * (M+1):=by
 intro xs
 induction xs with
 | nil=>intro _;simp[Np.em]
 | cons x r ih=>
  intro h;have h1:=h x (List.mem_cons_self ..);have h2:=ih (λy hy=>h y (mQ _ hy))
  cases r with
  | nil=>simp[Np.em];omega
  | cons y r=>
   rw[Np.em,List.length_append,List.length_cons,List.length_cons,Nat.succ_mul];omega
theorem Sm{l:List (List UInt8)}{x:List UInt8}(h:Np.jU l=true)(h1:Np.bX x=true\/(l = []/\x = [42])):Np.jU (l ++ [x])=true:=by
 cases l with
 | nil=>rcases h1 with h1 | ⟨_,h1⟩<;>simp[Np.jU,h1]
 | cons y l=>
  rcases h1 with h1 | ⟨h1,_⟩
  ·simp only[Np.jU,Bool.and_eq_true,List.cons_append,List.all_append,List.all_cons,List.all_nil,Bool.and_true] at h |-;exact⟨h.1,h.2,h1⟩
  ·cases h1
theorem aRJ(b o c:Nat)(ss:List ByteArray)(n:Nat)(hn:ss.length=n)(h0:0<n)(QJ:n<=1000)(hs:∀ s∈ss,s.size<=1000)(w:World)(hc:∀ (j:Nat) x,ss[j]?=some x->w.cell? ⟨b,o+j,none⟩=some (.string x))(hb:b<w.heap.size)(BT:n<=c) :
 Calls prog 334 #[.slice (some ⟨b,o,none⟩) n c] w λe w'=>∃ (r:ByteArray) (er:Int),e = .returned (.tuple #[.string r,.int .i64 er])/\(er=0->Np.al r.data.toList=true)/\Below w.heap.size w w':=by
 have HN:=jq hn;have HS:=jq hs;have HC:=jq hc;have HB:=jq hb;clear hn hs hc hb;have h0i:(n:Int)≠0:=by omega
 go_enter func334,ntmps334;by_cases h8:8<n
 ·have h8i:(8:Int)<(n:Int):=by omega
  clear h8;go_wp2_with fail;go_ret2;exact⟨_,_,rfl,λh=>absurd h (by decide),vQ _ _⟩
 ·have hd8:decide ((8:Int)<(n:Int))=false:=afY;have hd0:((n:Int) == 0)=false:=by simpa using h0i
  go_wp2_with fail;go_loopw [15] (λi wr=>∃ k:Nat,k<=n/\i = .int .i64 k/\wr=w/\Hid (Np.jU ((ss.take k).map (·.data.toList))=true)) (λi _=>n - (intOf i).toNat)
  case atStart=>exact⟨0,by omega,rfl,rfl,jq rfl⟩
  case round=>
   obtain⟨k,hk,rfl,rfl,HL⟩:=hrel;by_cases ab:k<n
   ·obtain⟨s,Fi⟩:∃ s,ss[k]?=some s:=⟨_,aQ (by rw[HN.out];exact ab)⟩;have c0:=HC.out k s Fi;have aM:=HB.out;have xa:=HS.out s (gQ Fi);have cj:=kNN k;have ck:(k:Int)<(n:Int):=by omega
    have hkc:k<c:=by omega
    have HT:Hid ((ss.take (k+1)).map (·.data.toList)=(ss.take k).map (·.data.toList) ++ [s.data.toList]):=jq (by
     obtain⟨hl,he⟩:=cQ.1 Fi;rw[fQ hl,he,List.map_append];rfl)
    have tm:Hid (k=0->(ss.take k).map (·.data.toList) = []):=jq (by rintro rfl;rfl);clear Fi;by_cases hl:Np.bX s.data.toList=true
    ·have gd:=jq hl;clear hl;go_wp2_with fail;refine (CR s (by omega) _).mono ?_;rintro e w1 ⟨rfl,rfl⟩;rw[gd.out];go_wp2_with fail;go_roundw
     case rel=>exact⟨k+1,by omega,by go_num,trivial,jq (by rw[HT.out];exact Sm HL.out (.inl gd.out))⟩
     ·simp[intOf]<;>omega
    ·have gd:Hid (Np.bX s.data.toList=false):=jq (by simpa using hl);clear hl;by_cases gH:k=0
     ·subst gH;have c1:wr.cell? ⟨b,o,none⟩=some (.string s):=c0;by_cases ax:s=(⟨#[42]⟩:ByteArray)
      ·obtain rfl:(⟨#[42]⟩:ByteArray)=s:=ax.symm;go_wp2_with fail;refine (CR (⟨#[42]⟩:ByteArray) (by decide) _).mono ?_;rintro e w1 ⟨rfl,rfl⟩;rw[gd.out];go_wp2_with fail;go_roundw
       case rel=>exact⟨1,by omega,by go_num,trivial,jq (by rw[HT.out];exact Sm HL.out (.inr ⟨rfl,rfl⟩))⟩
       ·simp[intOf]<;>omega
      ·have fH:(s.toList == [42])=false:=by
        simp only[beq_eq_false_iff_ne,ne_eq];intro h;rw[dQ] at h;exact ax (iC h)
       clear ax;go_wp2_with fail;refine (CR s (by omega) _).mono ?_;rintro e w1 ⟨rfl,rfl⟩;rw[gd.out];go_wp2_with fail;go_ret2;exact⟨_,_,rfl,λh=>absurd h (by decide),vQ _ _⟩
     ·have hkp:(0:Int)<(k:Int):=by omega
      clear gH;go_wp2_with fail;refine (CR s (by omega) _).mono ?_;rintro e w1 ⟨rfl,rfl⟩;rw[gd.out];go_wp2_with fail;go_ret2;exact⟨_,_,rfl,λh=>absurd h (by decide),vQ _ _⟩
   ·obtain rfl:k=n:=by omega
    clear ab;have hlen:(Np.em (ss.map (·.data.toList))).length<=8 * 1001:=by
     refine yQ (aKZ (M:=1000) _ (λx hx=>?_)) ?_
     ·obtain⟨s,h1,rfl⟩:=List.mem_map.1 hx
      have:=HS.out s h1
      rw[bj];exact this
     ·rw[List.length_map,HN.out];exact Nat.mul_le_mul_right _ (by omega)
    have jz:=jq hlen;have pd:Hid (Np.jU (ss.map (·.data.toList))=true):=jq (by have:=HL.out;rw[kQ (by rw[HN.out];omega)] at this;exact this);clear hlen;have hj:=Tryz.strings_Join b o c ss ⟨#[46]⟩ wr HC.out HB.out (by rw[HN.out];omega) (by rw[HN.out];exact BT) (by
     show (Lib.join _ [46]).length<=_;rw[Sd]
     have:=jz.out
     omega)
    rw[HN.out] at hj;have HJ:=jq hj;clear hj;go_wp2_with fail;refine HJ.out.mono ?_;rintro e w1 ⟨rfl,hb⟩;have aF:=jq hb;clear hb;obtain⟨J,hJ⟩:∃ J:ByteArray,(⟨(Lib.join (ss.map (·.data.toList)) (⟨#[46]⟩:ByteArray).data.toList).toArray⟩:ByteArray)=J:=⟨_,rfl⟩;rw[hJ];have Hl:Hid (J.data.toList=Np.em (ss.map (·.data.toList))):=jq (by
     rw[<-hJ];show Lib.join _ [46]=_;rw[Sd])
    clear hJ;have Jq:J.size<=8008:=by rw[<-bj,Hl.out];exact jz.out
    by_cases py:J.size<=60
    ·have aeY:(J.size:Int)<=60:=by omega
     have HV:Hid (Np.al J.data.toList=true):=jq (by
      rw[Hl.out];exact Np.aKJ (by intro k0;have:=Qd List.length k0;rw[List.length_map,HN.out] at this;simp at this;omega) (by rw[List.length_map,HN.out];omega) pd.out (by rw[<-Hl.out,bj];exact py))
     clear py;go_wp2_with fail;go_ret2;exact⟨_,_,rfl,λ_=>HV.out,aF.out⟩
    ·have aeY:(60:Int)<(J.size:Int):=by omega
     clear py;go_wp2_with fail;go_ret2;exact⟨_,_,rfl,λh=>absurd h (by decide),aF.out⟩
end
section
open Go.ChangeShapes Go.WideShapes Go.ChangeAt Go.RowKit Go.Deep
def iI{α:Type}(P:Program)(t:TypeId)(sz:Nat)(R:aiQ α):Prop:=
 ∀ (H:Type) (enc:TypeId×Value->H) (W:World) (base:Nat) (spare:Nat->Bool) (held:Bool) (fuel:Nat) (cs:List Value) (d:DataW H) (ps:List MemPlace),
   DataW.trod enc P W base spare held fuel t cs=some (d,ps)->(∀ n∈d.weights P t,n<=reachBytes)->cs.length=sz/\∃ x,R W W.heap.size cs x
def RNum(k:IntKind)(_:World)(_:Nat)(e:List Value)(x:Int):Prop:=e = [.int k x]/\(Lit.int k x).wf=true
theorem kD{P:Program}{t:TypeId}{k:IntKind}(ht:P.underlying t=some (.int k)):iI P t 1 (RNum k):=by
 intro H enc W base spare held fuel cs d ps h _;obtain⟨n,rfl,_,hwf⟩:=DataW.trod_int ht h;exact⟨rfl,n,rfl,hwf⟩
def RStr(_:World)(_:Nat)(e:List Value)(x:List UInt8):Prop:=∃ s:ByteArray,s.data.toList=x/\s.size<=140737488355328/\e = [.string s]
theorem C2{P:Program}{t:TypeId}(ht:P.underlying t=some .string):iI P t 1 RStr:=by
 intro H enc W base spare held fuel cs d ps h hw;obtain⟨s,rfl,hx,_⟩:=DataW.trod_string ht h;simp only[Prod.mk.injEq] at hx;rw[hx.1] at hw
 have:=hw s.data.toList.length (by simp[DataW.weights])
 have h2:=reachBytes_lt;exact⟨rfl,s.data.toList,s,rfl,by rw[bj] at this;omega,rfl⟩
def RSl{α:Type}(R:aiQ α)(sz:Nat)(W:World)(B:Nat)(e:List Value)(xs:List α):Prop:=∃ v,e = [v]/\SlR R sz W B v xs
theorem RSl.more{α:Type}{R:aiQ α}{sz:Nat}(h:dy R):dy (RSl R sz):=λ_ _ _ _ _ ⟨v,hv,hs⟩ hb=>⟨v,hv,hs.more h hb⟩
theorem Ud{H:Type}{P:Program}{e:TypeId} : ∀ {ds:List (DataW H)} {d:DataW H},d∈ds->∀ n∈d.weights P e,n∈DataW.weightsAll P e ds
 | d0::ds,d,hd,n,hn=>by
   simp only[DataW.weightsAll,List.mem_append];rcases List.mem_cons.1 hd with rfl | hd
   ·exact .inl hn
   ·exact .inr (Ud hd n hn)
theorem Oq(b o n:Nat):(⟨b,o,none⟩:Addr).add n=⟨b,o+n,none⟩:=by
 unfold Addr.add;split
 ·rename_i h;subst h;rfl
 ·rfl
theorem Ye{W:World}{a:Addr}{v:Value}(h:W.cell? a=some v):a=⟨a.block,a.off,none⟩:=by
 have:=World.cell?_spot h
 cases a;simp_all
theorem zG{α:Type}{P:Program}{t e:TypeId}{sz:Nat}{R:aiQ α}(ht:P.underlying t=some (.slice e))(hC:P.cellsOf e=sz)(ay:0<sz)(hb:0<P.bytesOf e)(hR:iI P e sz R):iI P t 1 (RSl R sz):=by
 intro H enc W base spare held fuel cs d ps h hw;rcases open_slice ht h with ⟨rfl,_⟩ | ⟨a,len,cap,m,n,D,Pl,rfl,dW,hl,hm,sr,hx,hi⟩
 ·exact⟨rfl,[],_,rfl,none,0,rfl,by simp,by simp,λi x hx=>by simp at hx⟩
 ·simp only[Prod.mk.injEq] at hx;rw[hx.1] at hw;have E3:len<=m:=by rw[sr];split<;>omega
  have hlen:len<=140737488355328:=by
   have:=hw ((((List.range len).map D).length+((List.range (m - len)).map λj=>D (len+j)).length) * P.bytesOf e) (by simp[DataW.weights,ht])
   simp only[List.length_map,List.length_range] at this;have h2:=reachBytes_lt;have h3:len+(m - len)<=(len+(m - len)) * P.bytesOf e:=Nat.le_mul_of_pos_right _ hb;omega
  have bL:∀ i,i<len->∃ x cs',W.cells? base (a.add (i * sz)) sz=some cs'/\cs'.length=sz/\R W W.heap.size cs' x:=λi dw=>by
   obtain⟨cs',hc,htr⟩:=hi i (by omega);rw[hC] at hc;obtain⟨h1,x,h2⟩:=hR H enc W base spare held n cs' (D i) (Pl i) htr (λk hk=>hw k (by
    simp only[DataW.weights,ht];exact mQ _ (List.mem_append_left _ (Ud (List.mem_map.2 ⟨i,List.mem_range.2 dw,rfl⟩) k hk))))
   exact⟨x,cs',hc,h1,h2⟩
  have be:∀ k,k<=len->∃ xs:List α,xs.length=k/\∀ i x,xs[i]?=some x->∃ cs',W.cells? base (a.add (i * sz)) sz=some cs'/\cs'.length=sz/\R W W.heap.size cs' x:=by
   intro k
   induction k with
   | zero=>exact λ_=>⟨[],rfl,λi x hx=>by simp at hx⟩
   | succ k ih=>
    intro hk;obtain⟨xs,ur,lz⟩:=ih (by omega);obtain⟨x,hx⟩:=bL k (by omega);refine⟨xs ++ [x],by simp[ur],λi y hy=>?_⟩;rcases Nat.lt_or_ge i xs.length with ab | oD
    ·rw[List.getElem?_append_left ab] at hy;exact lz i y hy
    ·rw[oQ oD] at hy
     have:i - xs.length=0:=by
      have:=(cQ.1 hy).1
      simp at this;omega
     rw[this] at hy;simp at hy;subst hy;rw[show i=k by omega];exact hx
  obtain⟨xs,ur,lz⟩:=be len (bQ _);refine⟨rfl,xs,_,rfl,some a,cap,by rw[ur],by omega,by omega,λi x hx=>?_⟩;have h0:0<len:=by have:=(cQ.1 hx).1;omega
  obtain⟨c0,vS,bEK,_⟩:=lz 0 _ (aQ (by omega));obtain⟨_,_,anJ⟩:=World.cells?_some vS;have ha:a=⟨a.block,a.off,none⟩:=by
   have h1:=anJ 0 ay;rw[show (a.add (0 * sz)).add 0=a by simp[Addr.add]] at h1;rw[aQ (by omega)] at h1;exact Ye h1
  obtain⟨cs',hc,gF,EE⟩:=lz i x hx;obtain⟨_,_,BU⟩:=World.cells?_some hc;have hce:cA W a.block (a.off+i * sz) cs':=λj u hj=>by
   have nw:=(cQ.1 hj).1;have h1:=BU j (by omega);rw[hj,ha] at h1;have h2:((⟨a.block,a.off,none⟩:Addr).add (i * sz)).add j=⟨a.block,a.off+i * sz+j,none⟩:=by
    rw[Oq,Oq]
   rw[h2] at h1;exact h1
  refine⟨a.block,a.off,cs',by rw[<-ha],?_,gF,hce,EE⟩
  have:=World.block_lt_of_cell? W _ (hce 0 _ (aQ (by omega)))
  exact this
theorem uw{P:Program}{t:TypeId}{fs:Array Field}(hs:P.underlying t=some (.struct fs)){H:Type}{enc:TypeId×Value->H}{W:World}{base:Nat}{spare:Nat->Bool}{held:Bool}{fuel:Nat}{cs:List Value}{d:DataW H}{ps:List MemPlace}
 (h:DataW.trod enc P W base spare held fuel t cs=some (d,ps)) (hw:∀ n∈d.weights P t,n<=reachBytes) :
 cs.length=P.cellsOf t/\∀ (j:Nat) (f:Field),fs[j]?=some f->∃ n d' ps',DataW.trod enc P W base spare held n f.type ((cs.drop f.offset).take (P.cellsOf f.type))=some (d',ps')/\∀ k∈d'.weights P f.type,k<=reachBytes:=by
 obtain⟨ys,n,_,hx,hl,RM,hf⟩:=DataW.trod_struct hs h;simp only[Prod.mk.injEq] at hx;refine⟨hl,λj f hj=>?_⟩;have nw:j<fs.size:=(eQ.1 hj).1;have h1:=hf j f hj;rw[aQ (by omega)] at h1;refine⟨n,_,_,h1,λk hk=>hw k ?_⟩;rw[hx.1];simp only[DataW.weights,hs];refine DataW.weights_mem_each (j:=j) (t:=f.type) (d:=(ys[j]'(by omega)).1) ?_ ?_ k hk
 ·simp[hj]
 ·simp[aQ (show j<ys.length by omega)]
theorem OI{H:Type}{enc:TypeId×Value->H}{P:Program}(hl:laidOutB P=true){W W':World}(hb:Below W.heap.size W W') :
 ∀ {ts:List TypeId} {vs:List Value} {ds:List (DataW H)} {ps:List MemPlace},(∀ t∈ts,P.readableRec t=true/\t<P.types.size)->DataW.TrodAll enc P W 0 (λ_=>true) true ts vs ds ps->(∀ x∈ps,x.block<W.heap.size)->
   DataW.TrodAll enc P W' 0 (λb=>decide (b<W.heap.size)) true ts vs ds ps
 | [],[],[],_,_,h,_=>h
 | t::ts,v::vs,d::ds,ps,hr,h,ab=>by
   obtain⟨p,q,h1,h2,rfl⟩:=h;have ht:=hr t (by simp);exact⟨p,q,Below.trod hl ht.1 ht.2 h1 hb (λx hx=>ab x (by simp[hx])),OI hl hb (λt ht=>hr t (by simp[ht])) h2 (λx hx=>ab x (by simp[hx])),rfl⟩
 | [],_::_,_,_,_,h,_=>h.elim
 | [],[],_::_,_,_,h,_=>h.elim
 | _::_,[],_,_,_,h,_=>h.elim
 | _::_,_::_,[],_,_,h,_=>h.elim
theorem aNY{H:Type}{enc:TypeId×Value->H}{P:Program}{f:Func}{s:ChangeSpec}{W W':World}{args:Array Value}{v:Value}{ds gs:List (DataW H)}{before:List MemPlace}
 (hl:laidOutB P=true) (hr:∀ t∈f.params.toList,P.readableRec t=true/\t<P.types.size) (fy:s.vars = [])
 (hW:DataW.Whole enc P f.params.toList s.vars false W args.toList ds gs before) (hb:Below W.heap.size W W')
 (nJ:∀ (b:Nat) (sp:Nat->Bool) (hd:Bool),DataW.TrodAll enc P W' b sp hd f.resultTypes.toList (v.resultList f.resultTypes.size) (s.fn H (ds++gs)).results [])
 (JI:(s.fn H (ds++gs)).args=ds) (aEQ:(s.fn H (ds++gs)).vars = []) :
 s.post enc P f false true false false W args v W':=by
 have ab:=hW.lt;have hW':=hW;obtain⟨p,q,hA,hV,rfl,_,_⟩:=hW;rw[fy] at hV;have hq:q = []:=by
  cases gs with
  | nil=>exact hV
  | cons _ _=>exact hV.elim
 subst hq;refine⟨ds,gs,_,[],p,[],hW',nJ _ _ _,?_,?_,World.keptBut_mono (λx hx=>⟨hx,.inr (by simpa using hx)⟩) (hb.frame (·∈p ++ [])),λh=>by cases h⟩
 ·rw[JI];exact OI hl hb hr hA (λx hx=>ab x (by simp[hx]))
 ·rw[aEQ,fy];rfl
theorem Bj:prog.cellsOf 9=1:=by kernel_rfl
theorem lo:laidOutB prog=true:=by kernel_rfl
end
end Go.Proofs.YtfnopgdcaanaiaaGreatDoor
