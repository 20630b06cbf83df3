/- No condition. -/
import Derived.Test.YtadhigmjilijcaaGreatDoorA06
import Derived.Test.YtadhigmjilijcaaGreatDoorA07
import Derived.Test.YtadhigmjilijcaaGreatDoorA09
set_option linter.all false
set_option maxRecDepth 100000
set_option maxHeartbeats 8000000
namespace Go.Proofs.YtadhigmjilijcaaGreatDoor
open Go.Proofs.Tryz
namespace Np
def aT(s z:List UInt8):Bool:=ao s&&(ao z&&fk s z)
def gP:List (List UInt8)->List (List UInt8)->Nat->Nat
 | x::xs,y::ys,n=>if x=y then gP xs ys ((if 0<n then n+1 else 0)+x.length) else n
 | _,_,n=>n
def gR(a b:List UInt8):List UInt8:=if gP (ar a) (ar b) 0=0 then [46] else a.drop (a.length - gP (ar a) (ar b) 0)
def nR:Nat->List UInt8->List (List UInt8)
 | 0,_=>[]
 | k+1,s=>if s = [46] then [] else jF s::nR k (jF s)
def ups(s:List UInt8):List (List UInt8):=nR (bY s).length s
def dj(s:List UInt8):List UInt8:=if s = [46] then [42] else 42::46::s
def AS(n:List UInt8):Option (List UInt8):=if ao (bR ([42]::bY n)) then some (bR ([42]::bY n)) else none
def eD(s:List UInt8):Int:=if s = [46] then 0 else (s.count 46:Int)+1
def gY(s:DSet):List UInt8:=match s.data with | []=>[] | d::_=>d.text
def IP(s:DSet):Int:=match s.data with | []=>0 | d::_=>d.n
def jX(s:DSet)(t:Nat):Bool:=IP s / 2 ^ t % 2 == 1
def nM(s:DSet):Bool:=jX s 2&&!jX s 4
def fy(apex:List UInt8)(s:DSet):Bool:=decide (s.type=8)&&(aT s.name apex&&s.data.all λd=>aT d.text apex)
def eJ(apex:List UInt8)(s:DSet)(n:List UInt8):Bool:=aT n apex&&(decide (gE s.name n<0)&&(gY s == apex||decide (gE n (gY s)<0)))
def fz(s:DSet)(n:List UInt8):Bool:=!nM s||(n == s.name||!aT n s.name)
def lB(s:DSet)(t:Nat):Bool:=!jX s t&&!jX s 3
def rF(s:List UInt8):Bool:=ao s&&!gu s
def ue(apex:List UInt8)(s:DSet)(n:List UInt8):Bool×Int:=if rF apex&&(ao n&&(bo s&&fy apex s)) then (eJ apex s n,0) else (false,1)
def xN(n:List UInt8)(s:DSet):Option (List UInt8):=
 let a:=gR n s.name
 let b:=gR n (gY s)
 AS (if a.length<b.length\/a = [46] then b else a)
def mb(apex:List UInt8)(t:Nat)(n:List UInt8)(nexts:List DSet):List DSet->Int
 | []=>0
 | s::r=>match xN n s with
   | none=>6
   | some w=>if nexts.any λx=>x.name == w&&lB x t then 5 else if nexts.any λx=>fz x w&&eJ apex x w then 6 else mb apex t n nexts r
def ry(apex:List UInt8)(t:Nat)(n:List UInt8)(s:DSet):Bool:=
 (s.name == n&&(lB s t&&(decide (t=6)||decide (t=8)||!nM s)))||(eJ apex s n&&aT (gY s) n)
def nu(apex n:List UInt8)(t:Int)(l:List DSet):Int×Int:=
 if !rF apex||!(ao n&&decide (1<=t)&&decide (t<=8)) then (0,1) else
 if l.any λs=>!bo s then (0,1) else
 if !aT n apex||(n == apex&&decide (t=6)) then (0,0) else
 let nexts:=l.filter (fy apex)
 let speaking:=nexts.filter λs=>fz s n
 if speaking.any (ry apex t.toNat n) then (5,0) else
 (mb apex t.toNat n nexts (speaking.filter λs=>eJ apex s n),0)
def i9(s:DSet):List Key:=s.data.map λd=>⟨d.n,d.m⟩
def cJ(known:List Signed)(n:List UInt8)(t:Int):Option Signed:=known.find? λs=>decide (s.set.type=t)&&s.set.name == n
def rx(anchor:DSet)(keys:Signed)(t d:Int):Bool:=
 (bo anchor&&decide (anchor.type=6))&&((bo keys.set&&(decide (keys.set.type=7)&&keys.set.name == anchor.name)) &&
   e8 keys anchor.name ((i9 keys.set).filter λk=>(i9 anchor).any λx=>decide (x=k)) t d)
abbrev mK:=List UInt8×Int
def bW(known:List Signed):Nat->List UInt8->List (List UInt8)×mK×Int
 | 0,_=>([],([],0),31)
 | k+1,n=>if n = [46] then ([n],([],0),0) else match cJ known n 6 with
   | none=>([],(n,6),4)
   | some s=>match s.sigs with
     | []=>([],([],0),31)
     | g::_=>if !aT n g.zone||n == g.zone then ([],([],0),31) else match bW known k g.zone with
       | (l,q,e)=>if e=0 then (n::l,([],0),0) else ([],q,e)
def iG:Signed:=⟨⟨[],0,0,[]⟩,[]⟩
def fp(known:List Signed)(anchor:DSet)(t d:Int):List (List UInt8)->List UInt8->List Key->List Key×mK×Int
 | [],_,ks=>(ks,([],0),0)
 | n::r,a,ks=>
  if n≠[46]/\e8 ((cJ known n 6).getD iG) a ks t d=false then ([],([],0),31) else
  match cJ known n 7 with
  | none=>([],(n,7),4)
  | some k=>if rx (if n = [46] then anchor else ((cJ known n 6).getD iG).set) k t d then fp known anchor t d r n (i9 k.set) else ([],([],0),31)
def ja(known:List Signed)(anchor:DSet)(zone:List UInt8)(t d:Int):List Key×mK×Int:=
 if 400<known.length\/bo anchor=false\/anchor.type≠6\/anchor.name≠[46] then ([],([],0),1) else
 if ao zone=false\/gu zone=true\/gw t d=false then ([],([],0),1) else
 if (known.any λs=>!bo s.set) then ([],([],0),1) else
 match bW known 10 zone with
 | (l,q,e)=>if e=0 then fp known anchor t d l.reverse [] [] else ([],q,e)
def aE(s:Signed):List UInt8:=match s.sigs with | []=>[] | g::_=>g.zone
def eu(known:List Signed)(n:List UInt8)(t:Int):Option Signed:=known.find? λs=>(s.set.name == n&&decide (s.set.type=t))&&aE s != []
inductive Found where
 | set (s:Signed)
 | miss (n:List UInt8) (t:Int)
 | loop
def qO(s:DSet)(n:List UInt8):List UInt8:=if aT (gR n (gY s)) (gR n s.name) then gR n (gY s) else gR n s.name
def nN(s:DSet)(zone n a:List UInt8):Bool:=decide (s.type=8)&&(ue zone s n == (true,0)&&(!(nM s&&aT n s.name)&&qO s n == a))
def rH(known:List Signed)(n:List UInt8)(t:Int):List Signed:=
 ((ups n).findSome? λa=>(eu known (dj a) t).bind λs=>(known.find? λp=>aE p == aE s&&nN p.set (aE s) n a).map λp=>[s,p]).getD []
def ph(n:List UInt8):List Signed->List (List UInt8)->List (List UInt8)
 | [],zs=>zs
 | s::r,zs=>ph n r (if s.set.type=8/\aE s≠[]/\aT n (aE s)=true/\aE s∉zs then zs ++ [aE s] else zs)
def el(known:List Signed)(z:List UInt8):List Signed:=known.filter λs=>decide (s.set.type=8)&&aE s == z
def sB(known:List Signed)(n:List UInt8)(t:Int):List Signed:=
 (((ph n known []).mergeSort λa b=>decide (eD b<=eD a)).findSome? λz=>
   if nu z n t ((el known z).map (·.set))=(5,0)\/nu z n t ((el known z).map (·.set))=(6,0) then some (el known z) else none).getD []
def pc(known:List Signed)(n:List UInt8)(t:Int):List Found:=
 if rH known n t≠[] then (rH known n t).map .set else if sB known n t≠[] then (sB known n t).map .set else [.miss n t]
def n9(known:List Signed)(n:List UInt8)(t:Int):Option Signed:=if t=3\/t=8 then none else eu known n 3
def f8(known:List Signed)(t:Int):Nat->List UInt8->List Found
 | k,n=>match eu known n t with
   | some s=>[.set s]
   | none=>match n9 known n t with
     | none=>pc known n t
     | some a=>match k with
       | 0=>[.loop]
       | k+1=>.set a::f8 known t k (gY a.set)
def fI(known:List Signed)(anchor:DSet)(t d:Int)(s:Signed):Int×mK:=
 if !aT s.set.name (aE s)||(decide (s.set.type=6)&&s.set.name == aE s) then (2,([],0)) else
 match ja known anchor (aE s) t d with
 | (ks,q,e)=>if e=0 then (if e8 s (aE s) ks t d then (1,([],0)) else (2,([],0))) else if e=4 then (3,q) else (2,([],0))
structure Verd where
 kind:Int
 q:mK
 sets:List Signed
def fj(known:List Signed)(anchor:DSet)(t d:Int):List Found->List Signed->Verd×Int
 | [],good=>(⟨1,([],0),good⟩,0)
 | .loop::_,_=>(⟨0,([],0),[]⟩,33)
 | .miss n t::_,_=>(⟨3,(n,t),[]⟩,0)
 | .set s::r,good=>if (fI known anchor t d s).1=1 then fj known anchor t d r (good ++ [s]) else (⟨(fI known anchor t d s).1,(fI known anchor t d s).2,[]⟩,0)
noncomputable def eY(known:List Signed)(anchor:DSet)(n:List UInt8)(ty t d:Int):Verd×Int:=
 if 400<known.length\/(known.any λs=>!bo s.set)=true\/bo anchor=false\/anchor.type≠6\/anchor.name≠[46] then (⟨0,([],0),[]⟩,1) else
 if yes (QOk n ty)=false\/gw t d=false then (⟨0,([],0),[]⟩,1) else
 fj known anchor t d (f8 known ty 8 n) []
end Np
section
open Go.RowKit
theorem aGK(s z:ByteArray)(hs:s.size<=140737488355328)(hz:z.size<=140737488355328)(w:World)(v1:Np.ao s.data.toList=true)(v2:Np.ao z.data.toList=false) :
 Calls prog 61 #[.string s,.string z] w (aUQ w.heap.size w (.tuple #[.bool false,.int .i64 11])):=by
 have V1:=jq v1;have V2:=jq v2;clear v1 v2;go_enter func61,ntmps61;go_wp2_with fail;refine (jH s hs _).mono ?_;rintro e w1 ⟨rfl,hb⟩;rw[V1.out];have aH:=jq hb;clear hb;go_wp2_with fail;refine (jH z hz _).mono ?_;rintro e w2 ⟨rfl,hb⟩;rw[V2.out];have ax:=jq (aH.out.trans (hb.mono aH.out.size));clear hb;go_wp2_with fail;go_ret2;exact⟨rfl,ax.out⟩
theorem Ic(s z:ByteArray)(hs:s.size<=140737488355328)(hz:z.size<=140737488355328)(w:World) :
 Calls prog 61 #[.string s,.string z] w (aUQ w.heap.size w (.tuple #[.bool (Np.aT s.data.toList z.data.toList),.int .i64 (if Np.ao s.data.toList&&Np.ao z.data.toList then 0 else 11)])):=by
 unfold Np.aT
 cases v1:Np.ao s.data.toList with
 | false=>exact aGJ s z hs w v1
 | true=>
  cases v2:Np.ao z.data.toList with
  | false=>exact aGK s z hs hz w v1 v2
  | true=>exact IR s z hs hz w v1 v2
theorem wg(s z:ByteArray)(hs:s.size<=140737488355328)(hz:z.size<=140737488355328)(w:World) :
 Calls prog 226 #[.string s,.string z] w (aUQ w.heap.size w (.bool (Np.aT s.data.toList z.data.toList))):=by
 go_enter func226,ntmps226;go_wp2_with fail;refine (Ic s z hs hz w).mono ?_;rintro e w2 ⟨rfl,hb⟩;have HB:=jq hb;clear hb;generalize (if Np.ao s.data.toList&&Np.ao z.data.toList then (0:Int) else 11)=c;go_wp2_with fail;go_ret;exact⟨rfl,HB.out⟩
theorem qk(s z:ByteArray)(hs:s.size<=140737488355328)(hz:z.size<=140737488355328)(w:World) :
 Calls prog 44 #[.string s,.string z] w (aUQ w.heap.size w (.bool (Np.aT s.data.toList z.data.toList))):=by
 go_enter func44,ntmps44;go_wp2_with fail;refine (Ic s z hs hz w).mono ?_;rintro e w2 ⟨rfl,hb⟩;have HB:=jq hb;have hc:Np.aT s.data.toList z.data.toList=true->(if Np.ao s.data.toList&&Np.ao z.data.toList then (0:Int) else 11)=0:=λh=>by
  unfold Np.aT at h;simp only[Bool.and_eq_true] at h;rw[h.1,h.2.1];rfl
 clear hb;obtain⟨r,hr⟩:=aRZ (Np.aT s.data.toList z.data.toList);obtain⟨c,Gr⟩:=aRZ (if Np.ao s.data.toList&&Np.ao z.data.toList then (0:Int) else 11);rw[hr,Gr];rw[hr,Gr] at hc;have HR:=jq hr;clear hr Gr
 cases r with
 | false=>
  clear hc;go_wp2_with fail;go_ret;exact⟨aw HR.out.symm,HB.out⟩
 | true=>
  obtain rfl:=hc rfl;clear hc;go_wp2_with fail;go_ret;exact⟨aw HR.out.symm,HB.out⟩
theorem Ml(a b:ByteArray)(ha:a.size<=140737488355328)(hb':b.size<=140737488355328)(v1:Np.ao a.data.toList=true)(v2:Np.ao b.data.toList=true)(w:World) :
 Calls prog 277 #[.string a,.string b] w (aUQ w.heap.size w (.int .i64 (Np.gE a.data.toList b.data.toList))):=by
 go_enter func277,ntmps277;go_wp2_with fail;refine (Mf a b ha hb' w).mono ?_;rintro e w2 ⟨rfl,hb⟩;have hcv:kL a.data.toList b.data.toList = .tuple #[.int .i64 (Np.gE a.data.toList b.data.toList),.int .i64 0]:=by unfold kL;rw[v1,v2];rfl
 rw[hcv];clear hcv v1 v2;have HB:=jq hb;clear hb;go_wp2_with fail;go_ret;exact⟨rfl,HB.out⟩
theorem QE(s:ByteArray)(hs:s.size<=140737488355328)(w:World) :
 Calls prog 224 #[.string s] w (aUQ w.heap.size w (.bool (Np.rF s.data.toList))):=by
 have hE:=enters_of func275 (by kernel_rfl) rfl;have hW:∀ w:World,Calls prog 275 #[.string s] w (aUZ w (.bool (Np.gu s.data.toList))):=λw=>by
  go_enter func275,ntmps275;go_wp2_with fail;refine (wI s hs w).mono ?_;rintro e w2 ⟨rfl,rfl⟩;go_wp2_with fail;go_ret;exact⟨rfl,rfl⟩
 unfold Np.rF;have HW:=jq hW;clear hE hW;go_enter func224,ntmps224;go_wp2_with fail;refine (jE s hs w).mono ?_;rintro e w2 ⟨rfl,hb⟩;have HB:=jq hb;clear hb;obtain⟨r,hr⟩:=aRZ (Np.ao s.data.toList);rw[hr];have HR:=jq hr;clear hr
 cases r with
 | false=>
  go_wp2_with fail;go_ret;exact⟨aw (by rw[HR.out];rfl),HB.out⟩
 | true=>
  go_wp2_with fail;refine (HW.out w2).mono ?_;rintro e w3 ⟨rfl,rfl⟩;go_wp2_with fail;go_ret;exact⟨aw (by rw[HR.out];rfl),HB.out⟩
theorem QG(n:ByteArray)(hn:n.size<=140737488355328)(ty:Int)(w:World) :
 Calls prog 34 #[.agg #[.string n,.int .i64 ty]] w λe w'=>e = .returned (.bool (Np.ao n.data.toList&&(decide (1<=ty)&&decide (ty<=8))))/\Below w.heap.size w w':=by
 obtain⟨X,hX⟩:=aRZ w.heap.size;obtain⟨w1,ah⟩:=aRZ (w.alloc (.cells #[.string n,.int .i64 ty] 27));have hb:Below w.heap.size w w1:=by rw[<-ah];exact blAl
 have bx:w1.heap.size=X+1:=by rw[<-ah,<-hX];simp
 have aH:=jq hb;have k0:w1.cell? ⟨X,0,none⟩=some (.string n):=by rw[<-ah,<-hX];simp[go_sem]
 have k1:w1.cell? ⟨X,1,none⟩=some (.int .i64 ty):=by rw[<-ah,<-hX];simp[go_sem]
 clear hb;go_enter func34,ntmps34;go_wp2_with fail
 try clear ah
 refine (jE n hn w1).mono ?_;rintro e w2 ⟨rfl,hb⟩;replace k1:=aQY hb k1;have ax:=aRQ aH hb;clear hb k0;obtain⟨r,hr⟩:=aRZ (Np.ao n.data.toList);have HR:=jq hr;rw[hr];clear hr
 cases r with
 | false=>
  go_wp2_with fail;exact bodyPost_ret (v:=.bool false) (by simp[results,results34,go_sem]) rfl ⟨by rw[HR.out];rfl,ax.out⟩
 | true=>
  by_cases h1:1<=ty
  ·have me:decide (1<=ty)=true:=uQ h1;go_wp2_with fail;exact bodyPost_ret (v:=.bool (decide (ty<=8))) (by simp[results,results34,go_sem]) rfl ⟨by rw[HR.out,me];rfl,ax.out⟩
  ·have me:decide (1<=ty)=false:=tQ h1;go_wp2_with fail;exact bodyPost_ret (v:=.bool false) (by simp[results,results34,go_sem]) rfl ⟨by rw[HR.out,me];rfl,ax.out⟩
theorem WT(n:ByteArray)(hn:n.size<=140737488355328)(ty:Int)(w:World) :
 Calls prog 225 #[.agg #[.string n,.int .i64 ty]] w λe w'=>e = .returned (.bool (Np.ao n.data.toList&&(decide (1<=ty)&&decide (ty<=8))))/\Below w.heap.size w w':=by
 obtain⟨X,hX⟩:=aRZ w.heap.size;obtain⟨w1,ah⟩:=aRZ (w.alloc (.cells #[.string n,.int .i64 ty] 27));have hb:Below w.heap.size w w1:=by rw[<-ah];exact blAl
 have bx:w1.heap.size=X+1:=by rw[<-ah,<-hX];simp
 have aH:=jq hb;have k0:w1.cell? ⟨X,0,none⟩=some (.string n):=by rw[<-ah,<-hX];simp[go_sem]
 have k1:w1.cell? ⟨X,1,none⟩=some (.int .i64 ty):=by rw[<-ah,<-hX];simp[go_sem]
 clear hb;go_enter func225,ntmps225;go_wp2_with fail
 try clear ah
 refine (jE n hn w1).mono ?_;rintro e w2 ⟨rfl,hb⟩;replace k1:=aQY hb k1;have ax:=aRQ aH hb;clear hb k0;obtain⟨r,hr⟩:=aRZ (Np.ao n.data.toList);have HR:=jq hr;rw[hr];clear hr
 cases r with
 | false=>
  go_wp2_with fail;exact bodyPost_ret (v:=.bool false) (by simp[results,results225,go_sem]) rfl ⟨by rw[HR.out];rfl,ax.out⟩
 | true=>
  by_cases h1:1<=ty
  ·have me:decide (1<=ty)=true:=uQ h1;go_wp2_with fail;exact bodyPost_ret (v:=.bool (decide (ty<=8))) (by simp[results,results225,go_sem]) rfl ⟨by rw[HR.out,me];rfl,ax.out⟩
  ·have me:decide (1<=ty)=false:=tQ h1;go_wp2_with fail;exact bodyPost_ret (v:=.bool false) (by simp[results,results225,go_sem]) rfl ⟨by rw[HR.out,me];rfl,ax.out⟩
theorem aNQ(s:ByteArray)(hs:s.size<=60)(w:World) :
 Calls prog 155 #[.string s] w λe w'=>∃ c:ByteArray,e = .returned (.string c)/\(c.data.toList=Np.dj s.data.toList/\c.size<=62)/\w=w':=by
 by_cases h:s.data.toList = [46]
 ·have h2:(s.toList == [46])=true:=by rw[dQ,h];rfl
  have HW:Hid ((⟨#[42]⟩:ByteArray).data.toList=Np.dj s.data.toList):=jq (by unfold Np.dj;rw[QbQ h]);clear h;go_enter func155,ntmps155;go_wp2_with fail;go_ret;exact⟨_,rfl,⟨HW.out,by decide⟩,rfl⟩
 ·have h2:(s.toList == [46])=false:=by rw[dQ];simpa using h
  have HW:Hid (((⟨#[42,46]⟩:ByteArray)++s).data.toList=Np.dj s.data.toList):=jq (by unfold Np.dj;rw[Qc h];simp);clear h;go_enter func155,ntmps155;go_wp2_with fail;go_ret;exact⟨_,rfl,⟨HW.out,by rw[ByteArray.size_append];show 2+s.size<=62;omega⟩,rfl⟩
theorem Qp(s:ByteArray)(ty life:Int)(v u:Value)(gs:List Np.Sig)(x:Np.DSet)(w:World)(hg:SlR dw 6 w w.heap.size u gs) :
 Calls prog 89 #[.agg #[.string s,.int .i64 ty,.int .i64 life,v,u]] w λe w'=>∃ c:ByteArray,e = .returned (.string c)/\(c.data.toList=Np.aE ⟨x,gs⟩/\c.size<=140737488355328)/\Below w.heap.size w w':=by
 have hb:∀ o,Below w.heap.size w (w.alloc o):=λo=>(vQ _ _).alloc (bQ _) o;have HB:=jq hb;clear hb;obtain⟨A,c,rfl,hc,_,he⟩:=hg
 cases gs with
 | nil=>
  clear he;go_enter func89,ntmps89;go_wp2_with fail;go_ret;exact⟨_,rfl,⟨rfl,by decide⟩,HB.out _⟩
 | cons g r=>
  obtain⟨b,o,e,rfl,hb,_,hce,z,hz,dV,rfl⟩:=he 0 g rfl;have h0:w.cell? ⟨b,o,none⟩=some (.string z):=by have:=hce 0 _ rfl;simpa using this
  have HZ:=jq hz;clear he hce hz;simp only[List.length_cons] at hc |-;obtain⟨n,hn⟩:=aRZ r.length;rw[hn] at hc |-;clear hn;have h5:(0:Int)<((n+1:Nat):Int):=by omega
  have h6:(((n+1:Nat):Int) == 0)=false:=by simp only[beq_eq_false_iff_ne,ne_eq];omega
  go_enter func89,ntmps89;go_wp2_with fail;go_ret;exact⟨_,rfl,⟨HZ.out,dV⟩,HB.out _⟩
structure Np.NextOk(x:Np.DSet):Prop where
 val:Np.bo x=true
 typ:x.type=8
theorem Np.NextOk.one{x:Np.DSet}(h:Np.NextOk x):∃ d r,x.data=d::r/\Np.ao d.text=true/\2<=d.n/\d.n<=510:=by
 obtain⟨_,_,_,_,_,h2,_,h3⟩:=Np.vv h.val
 cases hd:x.data with
 | nil=>rw[hd] at h2;simp at h2
 | cons d r=>
  have h4:=Np.Cn h3 d (by rw[hd];simp);rw[h.typ] at h4;simp only[Np.lE,show Np.dF 8=⟨2,2,510,0,0,true,false,true⟩ from rfl,Bool.and_eq_true,Qa,Np.vu] at h4;exact⟨d,r,rfl,by simpa using h4.2,by have:=h4.1.1.1.1;simpa using this,by have:=h4.1.1.1.2;simpa using this⟩
theorem xB{w:World}{B:Nat}{e:List Value}{x:Np.DSet}(h:bO w B e x)(hx:Np.NextOk x):∃ (s t:ByteArray) (b o k c:Nat) (n m:Int),e = [.string s,.int .i64 8,.int .i64 x.life,.slice (some ⟨b,o,none⟩) k c]/\x.data.length=k/\1<=k/\k<=8/\s.data.toList=x.name/\s.size<=60/\b<B/\k<=c/\t.data.toList=Np.gY x/\t.size<=60/\Np.ao t.data.toList=true/\n=Np.IP x/\2<=n/\n<=510/\
 w.cell? ⟨b,o,none⟩=some (.string t)/\w.cell? ⟨b,o+1,none⟩=some (.int .i64 n)/\w.cell? ⟨b,o+2,none⟩=some (.int .i64 m):=by
 obtain⟨s,v,hs,au,hd,rfl⟩:=h;obtain⟨d,r,fw,hv,h1,h2⟩:=hx.one;obtain⟨_,_,_,_,_,l1,l8,_⟩:=Np.vv hx.val;obtain⟨b,o,c,t,rfl,hb,hc,ht,_,c0,c1,c2⟩:=ug hd (k:=0) (by rw[fw];rfl);refine⟨s,t,b,o,_,c,d.n,d.m,by rw[hx.typ],rfl,l1,l8,hs,?_,hb,hc,by rw[ht,Np.gY,fw],?_,by rw[ht];exact hv,by rw[Np.IP,fw],h1,h2,by simpa using c0,by simpa using c1,by simpa using c2⟩
 ·rw[<-be,hs];exact Np.km (DZ hx.val)
 ·rw[<-be,ht];exact Np.km hv
theorem YK:∀ k:Nat,k<511->∀ t:Nat,t<9->(bits BinOp.and IntKind.i64 (k:Int) (wrap64 (2 ^ t)) != 0)=((k:Int) / 2 ^ t % 2 == 1):=by decide +kernel
theorem Gh{n:Int}(h1:0<=n)(h2:n<=510){t:Nat}(ht:t<=8):(bits BinOp.and IntKind.i64 n (wrap64 (2 ^ t)) != 0)=(n / 2 ^ t % 2 == 1):=by
 obtain⟨k,rfl⟩:∃ k:Nat,n=k:=⟨n.toNat,by omega⟩;exact YK k (by omega) t (by omega)
theorem bO.later{w w':World}{e:List Value}{x:Np.DSet}(h:bO w w.heap.size e x)(hb:Below w.heap.size w w'):bO w' w'.heap.size e x:=jG _ _ _ _ _ (eR _ _ _ _ _ h hb) hb.size
theorem aj(w:World)(o:Obj):Below w.heap.size w (w.alloc o):=(vQ _ _).alloc (bQ _) o
theorem Ci(x:Np.DSet)(hx:Np.NextOk x)(e:List Value)(w:World)(he:bO w w.heap.size e x)(ty:Int)(h1:1<=ty)(h8:ty<=8) :
 Calls prog 276 #[.agg e.toArray,.int .i64 ty] w (aUQ w.heap.size w (.bool (Np.jX x ty.toNat))):=by
 obtain⟨t,rfl⟩:∃ t:Nat,ty=t:=⟨ty.toNat,by omega⟩;obtain⟨s,tx,b,o,k,c,n,m,rfl,_,dp,sW,hs,au,hb,hc,rh,uY,mv,hn,wZ,fG,c0,c1,c2⟩:=xB he hx;have HN:=jq hn;clear hn he rh hs mv;have HB:=jq (aj w);have hc':(0:Int)<(k:Int):=by omega
 go_enter func276,ntmps276;go_wp2_with fail;go_quiet (fail);go_wp2_with fail;go_ret;exact⟨aw (by rw[Gh (by omega) fG (by omega),HN.out];rfl),below_drewN (HB.out _) _⟩
theorem Mq(x:Np.DSet)(hx:Np.NextOk x)(e:List Value)(w:World)(he:bO w w.heap.size e x) :
 Calls prog 233 #[.agg e.toArray] w (aUQ w.heap.size w (.bool (Np.nM x))):=by
 have HE:=jq he;have HX:=jq hx;obtain⟨s,v,hs,au,hd,rfl⟩:=he;obtain⟨A,n,c,rfl,_,_,_⟩:=aM hd;clear hs hd hx;go_enter func233,ntmps233;go_wp2_with fail;refine (Ci x HX.out _ _ (HE.out.later (aj w _)) 2 (by decide) (by decide)).mono ?_;rintro e w2 ⟨rfl,hb⟩;obtain⟨c2,f2⟩:=dd hb;have HB:=jq ((aj w _).trans (hb.mono (by simp)));clear hb;obtain⟨r,hr⟩:=aRZ (Np.jX x (2:Int).toNat);rw[hr];have HR:=jq hr;clear hr
 cases r with
 | false=>
  go_wp2_with fail;go_ret;exact⟨aw (by unfold Np.nM;rw[show Np.jX x 2=false from HR.out];rfl),HB.out⟩
 | true=>
  go_wp2_with fail;refine (Ci x HX.out _ _ (HE.out.later HB.out) 4 (by decide) (by decide)).mono ?_;rintro e w3 ⟨rfl,hb⟩;have am:=jq (HB.out.trans (hb.mono HB.out.size));clear hb;go_wp2_with fail;go_ret;exact⟨aw (by unfold Np.nM;rw[show Np.jX x 2=true from HR.out];rfl),am.out⟩
theorem Mr(x:Np.DSet)(hx:Np.NextOk x)(e:List Value)(w:World)(he:bO w w.heap.size e x)(ty:Int)(h1:1<=ty)(h8:ty<=8) :
 Calls prog 232 #[.agg e.toArray,.int .i64 ty] w (aUQ w.heap.size w (.bool (Np.lB x ty.toNat))):=by
 have HE:=jq he;have HX:=jq hx;obtain⟨s,v,hs,au,hd,rfl⟩:=he;obtain⟨A,n,c,rfl,_,_,_⟩:=aM hd;clear hs hd hx;go_enter func232,ntmps232;go_wp2_with fail;refine (Ci x HX.out _ _ (HE.out.later (aj w _)) ty h1 h8).mono ?_;rintro e w2 ⟨rfl,hb⟩;obtain⟨c2,f2⟩:=dd hb;have HB:=jq ((aj w _).trans (hb.mono (by simp)));clear hb;obtain⟨r,hr⟩:=aRZ (Np.jX x ty.toNat);rw[hr];have HR:=jq hr;clear hr
 cases r with
 | true=>
  go_wp2_with fail;go_ret;exact⟨aw (by unfold Np.lB;rw[HR.out];rfl),HB.out⟩
 | false=>
  go_wp2_with fail;refine (Ci x HX.out _ _ (HE.out.later HB.out) 3 (by decide) (by decide)).mono ?_;rintro e w3 ⟨rfl,hb⟩;have am:=jq (HB.out.trans (hb.mono HB.out.size));clear hb;go_wp2_with fail;go_ret;exact⟨aw (by unfold Np.lB;rw[HR.out];rfl),am.out⟩
theorem Ms(x:Np.DSet)(hx:Np.NextOk x)(e:List Value)(w:World)(he:bO w w.heap.size e x)(n:ByteArray)(hn:n.size<=140737488355328) :
 Calls prog 231 #[.agg e.toArray,.string n] w (aUQ w.heap.size w (.bool (Np.fz x n.data.toList))):=by
 have HE:=jq he;have HX:=jq hx;obtain⟨s,v,hs,au,hd,rfl⟩:=he;obtain⟨A,k,c,rfl,_,_,_⟩:=aM hd;have HS:=jq hs;clear hs hd hx;go_enter func231,ntmps231;go_wp2_with fail;refine (Mq x HX.out _ _ (HE.out.later (aj w _))).mono ?_;rintro e w2 ⟨rfl,hb⟩;obtain⟨c2,f2⟩:=dd hb;have HB:=jq ((aj w _).trans (hb.mono (by simp)));clear hb;obtain⟨r,hr⟩:=aRZ (Np.nM x);rw[hr];have HR:=jq hr;clear hr
 cases r with
 | false=>
  go_wp2_with fail;go_ret;exact⟨aw (by unfold Np.fz;rw[HR.out];rfl),HB.out⟩
 | true=>
  by_cases hne:n.data.toList=s.data.toList
  ·have h2:(n.toList == s.toList)=true:=by rw[dQ,dQ,hne];simp
   have HN:=jq hne;clear hne;go_wp2_with fail;go_ret;exact⟨aw (by unfold Np.fz;rw[HR.out,HN.out,HS.out];simp),HB.out⟩
  ·have h2:(n.toList == s.toList)=false:=by rw[dQ,dQ];simpa using hne
   have HN:Hid ((n.data.toList == x.name)=false):=jq (by rw[<-HS.out];simpa using hne);clear hne;go_wp2_with fail;refine (wg n s hn au _).mono ?_;rintro e w3 ⟨rfl,hb⟩;have am:=jq (HB.out.trans (hb.mono HB.out.size));clear hb;go_wp2_with fail;go_ret;exact⟨aw (by unfold Np.fz;rw[HR.out,HN.out,HS.out];rfl),am.out⟩
theorem Ch(ap:ByteArray)(ed:ap.size<=140737488355328)(x:Np.DSet)(hx:Np.NextOk x)(e:List Value)(w:World)(he:bO w w.heap.size e x)(n:ByteArray)(hn:n.size<=140737488355328) :
 Calls prog 234 #[.string ap,.agg e.toArray,.string n] w (aUQ w.heap.size w (.bool (Np.eJ ap.data.toList x n.data.toList))):=by
 have HE:=jq he;have mY:=DZ hx.val;obtain⟨s,t,b,o,k,c,nn,m,rfl,_,dp,sW,hs,au,hb,hc,ht,uY,mv,_,_,_,c0,_,_⟩:=xB he hx;rw[<-hs] at mY;have HS:=jq hs;have HT:=jq ht;have yy:=jq mv;have lU:=jq mY;have dS:(0:Int)<(k:Int):=by omega
 clear hs ht mv mY hx he;go_enter func234,ntmps234;go_wp2_with fail;refine (wg n ap hn ed _).mono ?_;rintro e w2 ⟨rfl,ag⟩;obtain⟨r,hr⟩:=aRZ (Np.aT n.data.toList ap.data.toList);rw[hr];have HR:=jq hr;have HB:=jq ((aj w _).trans (ag.mono (by simp)))
 cases r with
 | false=>
  clear hr ag;go_wp2_with fail;go_ret;exact⟨aw (by unfold Np.eJ;rw[HR.out];rfl),HB.out⟩
 | true=>
  have cE:Np.ao n.data.toList=true:=by unfold Np.aT at hr;simp only[Bool.and_eq_true] at hr;exact hr.1
  have eC:=jq cE;have k0:=(HB.out.cell (p:=⟨b,o,none⟩) hb).trans c0;have l2:w.heap.size<w2.heap.size:=by have:=ag.size;simp only[World.size_alloc] at this;omega
  obtain⟨c2,f2⟩:=dd ag;clear hr ag cE;go_wp2_with fail;refine (Ml s n (by omega) hn lU.out eC.out _).mono ?_;rintro e w3 ⟨rfl,ai⟩;obtain⟨q,hq⟩:=aRZ (Np.gE s.data.toList n.data.toList);rw[hq];have HQ:=jq hq;have am:=jq (HB.out.trans (ai.mono HB.out.size));by_cases uO:q<0
  ·have gV:¬ 0<=q:=by omega
   have j0:=(am.out.cell (p:=⟨b,o,none⟩) hb).trans c0;obtain⟨c3,f3⟩:=dd ai;clear hq ai;by_cases hne:t.data.toList=ap.data.toList
   ·have h2:(t.toList == ap.toList)=true:=by rw[dQ,dQ,hne];simp
    have HN:Hid ((Np.gY x == ap.data.toList)=true):=jq (by rw[<-HT.out];simpa using hne);clear hne;go_wp2_with fail;go_ret;exact⟨aw (by unfold Np.eJ;rw[HR.out,<-HS.out,HQ.out,uQ uO,HN.out];rfl),am.out⟩
   ·have h2:(t.toList == ap.toList)=false:=by rw[dQ,dQ];simpa using hne
    have HN:Hid ((Np.gY x == ap.data.toList)=false):=jq (by rw[<-HT.out];simpa using hne);clear hne;go_wp2_with fail;refine (Ml n t hn (by omega) eC.out yy.out _).mono ?_;rintro e w4 ⟨rfl,av⟩;have aF:=jq (am.out.trans (av.mono am.out.size));clear av;go_wp2_with fail;go_ret;exact⟨aw (by unfold Np.eJ;rw[HR.out,<-HS.out,HQ.out,uQ uO,HN.out,<-HT.out];rfl),aF.out⟩
  ·have gV:0<=q:=by omega
   clear hq ai;go_wp2_with fail;go_ret;exact⟨aw (by unfold Np.eJ;rw[HR.out,<-HS.out,HQ.out,show decide (q<0)=false from tQ (by omega)];rfl),am.out⟩
theorem VW{α:Type}{p:α->Bool}{xs:List α}{k:Nat}(af:k<xs.length)(h:∀ x∈xs.take k,p x=true)(hx:p xs[k]=true):∀ x∈xs.take (k+1),p x=true:=by
 rw[fQ af];intro x hm;rcases List.mem_append.1 hm with h' | h'
 ·exact h x h'
 ·simp at h';subst h';exact hx
theorem VU{α:Type}{p:α->Bool}{xs:List α}{k:Nat}(af:k<xs.length)(hx:p xs[k]=false):xs.all p=false:=List.all_eq_false.2 ⟨_,List.getElem_mem af,by simp[hx]⟩
theorem Pn(ap:ByteArray)(ed:ap.size<=140737488355328)(x:Np.DSet)(e:List Value)(w:World)(he:bO w w.heap.size e x) :
 Calls prog 229 #[.string ap,.agg e.toArray] w (aUQ w.heap.size w (.bool (Np.fy ap.data.toList x))):=by
 obtain⟨s,v,hs,au,hd,rfl⟩:=he;obtain⟨A,n,c,rfl,hn,oF,zW⟩:=aM hd;have HD:=jq hd;have HS:=jq hs;have HN:=jq hn;have HB:=jq (aj w);clear hs hd hn;go_enter func229,ntmps229;by_cases ht:x.type=8
 ·have ta:(x.type == 8)=true:=by simp[ht]
  have uX:(x.type != 8)=false:=by simp[ht]
  have HT:=jq ht;clear ht;go_wp2_with fail;refine (wg s ap au ed _).mono ?_;rintro e w2 ⟨rfl,ag⟩;obtain⟨r,hr⟩:=aRZ (Np.aT s.data.toList ap.data.toList);rw[hr];have HR:=jq hr;have l2:w.heap.size<w2.heap.size:=by have:=ag.size;simp only[World.size_alloc] at this;omega
  have ax:=jq ((HB.out _).trans (ag.mono (by simp)))
  cases r with
  | false=>
   clear hr ag;go_wp2_with fail;go_ret;exact⟨aw (by unfold Np.fy;rw[<-HS.out,HR.out,Bool.false_and,Bool.and_false]),ax.out⟩
  | true=>
   obtain⟨c2,f2⟩:=dd ag;clear hr ag;go_wp2_with fail;clear c2 f2;go_loopw [20] (λi wr=>∃ k:Nat,k<=n/\i = .int .i64 k/\Hid (Below w2.heap.size w2 wr)/\Hid (∀ d∈x.data.take k,Np.aT d.text ap.data.toList=true)) (λi _=>n - (intOf i).toNat)
   case atStart=>exact⟨0,jQ _,rfl,jq (vQ _ _),jq (by simp)⟩
   case round=>
    obtain⟨k,hk,rfl,fm,HA⟩:=hrel;obtain⟨ws,rfl⟩:=aRX wr;have bU:=aRQ ax fm.out;by_cases af:k<n
    ·obtain⟨b,o,c',t,hA,hb,_,ht,uY,c0,c1,c2⟩:=ug (HD.out.later br bB bU.out) (k:=k) (aQ (by rw[HN.out];exact af));simp only[Value.slice.injEq] at hA;obtain⟨rfl,-,rfl⟩:=hA;have yu:=jq ht;have dS:=kNN k;have dp:(k:Int)<(n:Int):=by omega
     have lw:=hb;clear ht;go_wp2_with fail;refine (wg t ap uY ed _).mono ?_;rintro e w3 ⟨rfl,ai⟩;have am:=jq (fm.out.trans (((aj ws _).trans (ai.mono (by simp))).mono fm.out.size));obtain⟨q,hq⟩:=aRZ (Np.aT t.data.toList ap.data.toList);rw[hq];have HQ:Hid (Np.aT (x.data[k]'(by rw[HN.out];exact af)).text ap.data.toList=q):=jq (by rw[<-yu.out];exact hq);clear hq ai c0 c1 c2
     cases q with
     | false=>
      go_wp2_with fail;go_ret;exact⟨aw (by unfold Np.fy;rw[VU (by rw[HN.out];exact af) HQ.out,Bool.and_false,Bool.and_false]),ax.out.trans (am.out.aSZ)⟩
     | true=>
      go_wp2_with fail;go_roundw
      case rel=>exact⟨k+1,by omega,by go_num,am,jq (VW (by rw[HN.out];exact af) HA.out HQ.out)⟩
      ·simp[intOf]<;>omega
    ·go_wp2_with fail;go_ret;exact⟨aw (by
      unfold Np.fy;rw[uQ HT.out,<-HS.out,HR.out,List.all_eq_true.2 (λd hd=>HA.out d (by rw[kQ (by rw[HN.out];omega)];exact hd))];rfl),bU.out⟩
 ·have ta:(x.type == 8)=false:=by simp[ht]
  have uX:(x.type != 8)=true:=by simp[ht]
  have HT:=jq ht;clear ht;go_wp2_with fail;go_ret;exact⟨aw (by unfold Np.fy;rw[tQ HT.out];rfl),HB.out _⟩
theorem W5:∀ args w,(callFunc 228 args).run prog w = .ok (.enter 228 args) w:=enters_of func228 (by kernel_rfl) rfl
theorem W6:∀ args w,(callFunc 230 args).run prog w = .ok (.enter 230 args) w:=enters_of func230 (by kernel_rfl) rfl
theorem W7:∀ args w,(callFunc 235 args).run prog w = .ok (.enter 235 args) w:=enters_of func235 (by kernel_rfl) rfl
theorem WH(ba:Nat)(ap:ByteArray)(ed:ap.size<=140737488355328)(x:Np.DSet)(e:List Value)(w:World)(he:bO w w.heap.size e x)(ca:w.cell? ⟨ba,0,none⟩=some (.string ap)) :
 Calls prog 228 #[.agg e.toArray,.pointer (some ⟨ba,0,none⟩)] w (aUQ w.heap.size w (.bool (Np.fy ap.data.toList x))):=by
 have HE:=jq he;have la:=World.block_lt_of_cell? w _ ca;simp only at la;obtain⟨s,v,hs,au,hd,rfl⟩:=he;obtain⟨A,n,c,rfl,_,_,_⟩:=aM hd;clear hs hd;go_enter func228,ntmps228;go_wp2_with fail;refine (Pn ap ed x _ _ (HE.out.later (aj w _))).mono ?_;rintro e w2 ⟨rfl,hb⟩;have HB:=jq ((aj w _).trans (hb.mono (by simp)));clear hb;go_wp2_with fail;go_ret;exact⟨rfl,HB.out⟩
theorem WI(bq:Nat)(n:ByteArray)(hn:n.size<=140737488355328)(x:Np.DSet)(hx:Np.NextOk x)(e:List Value)(w:World)(he:bO w w.heap.size e x)(cq:w.cell? ⟨bq,0,none⟩=some (.string n)) :
 Calls prog 230 #[.agg e.toArray,.pointer (some ⟨bq,0,none⟩)] w (aUQ w.heap.size w (.bool (Np.fz x n.data.toList))):=by
 have HE:=jq he;have HX:=jq hx;have la:=World.block_lt_of_cell? w _ cq;simp only at la;obtain⟨s,v,hs,au,hd,rfl⟩:=he;obtain⟨A,k,c,rfl,_,_,_⟩:=aM hd;clear hs hd hx;go_enter func230,ntmps230;go_wp2_with fail;refine (Ms x HX.out _ _ (HE.out.later (aj w _)) n hn).mono ?_;rintro e w2 ⟨rfl,hb⟩;have HB:=jq ((aj w _).trans (hb.mono (by simp)));clear hb;go_wp2_with fail;go_ret;exact⟨rfl,HB.out⟩
theorem WJ(ba bq:Nat)(ap n:ByteArray)(ed:ap.size<=140737488355328)(hn:n.size<=140737488355328)(x:Np.DSet)(hx:Np.NextOk x)(e:List Value)(w:World)(he:bO w w.heap.size e x)(ca:w.cell? ⟨ba,0,none⟩=some (.string ap))(cq:w.cell? ⟨bq,0,none⟩=some (.string n)) :
 Calls prog 235 #[.agg e.toArray,.pointer (some ⟨ba,0,none⟩),.pointer (some ⟨bq,0,none⟩)] w (aUQ w.heap.size w (.bool (Np.eJ ap.data.toList x n.data.toList))):=by
 have HE:=jq he;have HX:=jq hx;have la:=World.block_lt_of_cell? w _ ca;have lq:=World.block_lt_of_cell? w _ cq;simp only at la lq;obtain⟨s,v,hs,au,hd,rfl⟩:=he;obtain⟨A,k,c,rfl,_,_,_⟩:=aM hd;clear hs hd hx;go_enter func235,ntmps235;go_wp2_with fail;refine (Ch ap ed x HX.out _ _ (HE.out.later (aj w _)) n hn).mono ?_;rintro e w2 ⟨rfl,hb⟩;have HB:=jq ((aj w _).trans (hb.mono (by simp)));clear hb;go_wp2_with fail;go_ret;exact⟨rfl,HB.out⟩
end
namespace Np
def iV:List (List UInt8)->List (List UInt8)->List (List UInt8)
 | x::xs,y::ys=>if x=y then x::iV xs ys else []
 | _,_=>[]
def jD(l:List (List UInt8)):Nat:=(l.map λx=>x.length+1).sum
theorem yS:∀ xs ys,iV xs ys <+: xs
 | [],_=>by simp[iV]
 | x::xs,[]=>by simp[iV]
 | x::xs,y::ys=>by
   rw[iV];split
   ·exact (List.cons_prefix_cons).2 ⟨rfl,yS xs ys⟩
   ·exact List.nil_prefix
theorem yT:∀ (xs ys:List (List UInt8)) (n:Nat),(∀ x∈xs,x≠[])->gP xs ys n=if n=0 then jD (iV xs ys) - 1 else n+jD (iV xs ys)
 | [],ys,n,_=>by simp[gP,iV,jD]
 | x::xs,[],n,_=>by simp[gP,iV,jD]
 | x::xs,y::ys,n,h=>by
   rw[gP,iV];split
   ·have hx:0<x.length:=List.length_pos_iff.2 (h x (by simp));rw[yT xs ys _ λz hz=>h z (by simp[hz])];simp only[jD,List.map_cons,List.sum_cons];split<;>split<;>split<;>omega
   ·simp[jD]
theorem DF:∀ l:List (List UInt8),l≠[]->(bR l).length+1=jD l
 | [],h=>absurd rfl h
 | [x],_=>by simp[bR,jD]
 | x::y::r,_=>by
   have:=DF (y::r) (by simp)
   simp only[bR,jD,List.map_cons,List.sum_cons,List.length_append,List.length_cons] at this |-;omega
theorem Hy(l:List (List UInt8)):jD l.reverse=jD l:=by unfold jD;rw[List.map_reverse,List.sum_reverse]
theorem vY{a:List UInt8}(h:ao a=true):∀ x∈ar a,x≠[]:=λx hx=>by
 unfold ar at hx;split at hx
 ·cases hx
 ·rename_i hr;rw[tp,Qc hr] at h;split at h
  ·cases h
  ·simp only[Bool.and_eq_true] at h;have h1:=h.1;have hx':x∈aR a:=List.mem_reverse.1 hx
   cases hs:aR a with
   | nil=>rw[hs] at hx';cases hx'
   | cons y r=>
    rw[hs] at h1 hx';simp only[fZ,Bool.and_eq_true,List.all_eq_true,Bool.or_eq_true,beq_iff_eq] at h1;rcases List.mem_cons.1 hx' with rfl | hx'
    ·rcases h1.1 with h1 | h1
     ·exact Hv h1
     ·rw[h1];simp
    ·exact Hv (h1.2 x hx')
theorem Mc{a b:List UInt8}(h:ao a=true):gP (ar a) (ar b) 0=0↔iV (ar a) (ar b) = []:=by
 rw[yT _ _ _ (vY h),QbQ rfl];constructor
 ·intro h0
  cases hc:iV (ar a) (ar b) with
  | nil=>rfl
  | cons x r=>
   rw[hc] at h0;have hx:x∈ar a:=(yS (ar a) (ar b)).subset (by rw[hc];simp)
   have:=List.length_pos_iff.2 (vY h x hx)
   simp only[jD,List.map_cons,List.sum_cons] at h0;omega
 ·intro h0;rw[h0];rfl
theorem Mb{a b:List UInt8}(h:ao a=true):gP (ar a) (ar b) 0<=a.length:=by
 rw[yT _ _ _ (vY h),QbQ rfl];obtain⟨r,hr⟩:=yS (ar a) (ar b);by_cases ha:a = [46]
 ·have:ar a = []:=by unfold ar;rw[QbQ ha]
  rw[this] at hr |-;simp[iV,jD]
 ·have h1:aR a=(ar a).reverse:=by unfold ar;rw[Qc ha,List.reverse_reverse]
  have h2:=DF _ (nf a);rw[tl,h1,Hy,<-hr] at h2;simp only[jD,List.map_append,List.sum_append] at h2 |-;omega
theorem Wu{a b:List UInt8}(h:ao a=true):gR a b=if iV (ar a) (ar b) = [] then [46] else bR (iV (ar a) (ar b)).reverse:=by
 unfold gR;by_cases h0:iV (ar a) (ar b) = []
 ·rw[QbQ h0,QbQ ((Mc h).2 h0)]
 ·rw[Qc h0,Qc (λk=>h0 ((Mc h).1 k)),yT _ _ _ (vY h),QbQ rfl];obtain⟨r,hr⟩:=yS (ar a) (ar b);generalize iV (ar a) (ar b)=L at h0 hr |-;have ha:a≠[46]:=λe=>by
   have:ar a = []:=by unfold ar;rw[QbQ e]
   rw[this] at hr;exact h0 (List.append_eq_nil_iff.1 hr).1
  have h1:aR a=r.reverse++L.reverse:=by
   rw[<-List.reverse_append,hr];unfold ar;rw[Qc ha,List.reverse_reverse]
  have hL:L.reverse≠[]:=by simpa using h0
  have h2:=DF _ hL;rw[Hy] at h2;have h3:a=bR (r.reverse++L.reverse):=by rw[<-h1,tl]
  rw[h3];by_cases fX:r.reverse = []
  ·rw[fX,List.nil_append,show (bR L.reverse).length - (jD L - 1)=0 by omega,List.drop_zero]
  ·rw[Ps _ _ fX hL,List.length_append,List.length_cons,
    show (bR r.reverse).length+((bR L.reverse).length+1) - (jD L - 1)=((bR r.reverse) ++ [46]).length by simp;omega,
    show bR r.reverse++46::bR L.reverse=(bR r.reverse ++ [46])++bR L.reverse by simp,List.drop_left]
theorem Fs{a b:List UInt8}(h:ao a=true):ao (gR a b)=true:=by
 rw[Wu h];split
 ·rfl
 ·rename_i h0;have hc:=Mb (b:=b) h;rw[yT _ _ _ (vY h),QbQ rfl] at hc;obtain⟨r,hr⟩:=yS (ar a) (ar b);generalize iV (ar a) (ar b)=L at h0 hr hc |-;have ha:a≠[46]:=λe=>by
   have:ar a = []:=by unfold ar;rw[QbQ e]
   rw[this] at hr;exact h0 (List.append_eq_nil_iff.1 hr).1
  have h1:aR a=r.reverse++L.reverse:=by
   rw[<-List.reverse_append,hr];unfold ar;rw[Qc ha,List.reverse_reverse]
  have hL:L.reverse≠[]:=by simpa using h0
  have h2:=DF _ hL;rw[Hy] at h2;rw[tp,Qc ha] at h;split at h
  ·cases h
  ·simp only[Bool.and_eq_true,Qa] at h;rw[h1] at h;refine Pu hL (by have:=h.2;rw[List.length_append] at this;omega) ?_ (by omega);generalize r.reverse=q at h;generalize L.reverse=p at h hL |-
   cases q with
   | nil=>exact h.1
   | cons y q=>
    have h3:=h.1;simp only[List.cons_append,fZ,Bool.and_eq_true,List.all_append] at h3
    cases p with
    | nil=>rfl
    | cons z p=>
     have h4:=h3.2.2;simp only[List.all_cons,Bool.and_eq_true] at h4;simp only[fZ,Bool.and_eq_true,Bool.or_eq_true];exact⟨.inl h4.1,h4.2⟩
theorem Me{a b:List UInt8}(h:ao a=true):(gR a b).length<=60:=km (Fs h)
end Np
section
open Go.RowKit
def Jg{α:Type}(R:aUJ α)(sz:Nat)(l:List α)(w:World)(e:Ending)(w':World):Prop:=∃ v',e = .returned v'/\SlR R sz w' w'.heap.size v' l/\Below w.heap.size w w'
theorem qP{α:Type}{p:α->Bool}{xs:List α}{k:Nat}(af:k<xs.length):(xs.take (k+1)).filter p=(xs.take k).filter p++if p xs[k] then [xs[k]] else []:=by
 rw[fQ af,List.filter_append];congr 1;rw[List.filter_cons];split<;>simp
theorem Iv(f:FuncId)(eg:∀ args w,(callFunc f args).run prog w = .ok (.enter f args) w)(cap:Array Value)(p:Np.DSet->Bool)(v:Value)(xs:List Np.DSet)(w:World)(h:SlR bO 4 w w.heap.size v xs)(hl:xs.length<=1000)
 (hp:∀ (W:World) (x:Np.DSet) (e:List Value),x∈xs->Below w.heap.size w W->bO W W.heap.size e x->Calls prog f (#[.agg e.toArray]++cap) W λe w'=>e = .returned (.bool (p x))/\Below W.heap.size W w') :
 Calls prog 227 #[v,.func (.func f) #[] cap] w (Jg bO 4 (xs.filter p) w):=by
 have H:=jq h;have HP:=jq hp;obtain⟨A,N,c,rfl,hN,Yk,_⟩:=aM h;have HN:=jq hN;have Cz:N<=1000:=by omega
 have HL:=jq hl;clear h hp hN hl;go_enter func227,ntmps227;go_wp2_with fail;go_loopw [5,10] (λkv i wr=>∃ (k n:Nat) (A':Option Addr) (c':Nat),k<=N/\i = .int .i64 k/\kv = .slice A' n c'/\n<=k/\Hid (((xs.take k).filter p).length=n)/\Hid (aY bO 4 25 w.heap.size w.heap.size wr (.slice A' n c') ((xs.take k).filter p))/\Hid (Below w.heap.size w wr)) (λ_ i _=>N - (intOf i).toNat)
 case atStart=>exact⟨0,0,none,0,jQ _,rfl,rfl,bQ _,jq (by simp),jq (aY.nil w),jq (vQ _ _)⟩
 case round=>
  obtain⟨k,n,A',c',hk,rfl,rfl,Zo,fo,HO,HB⟩:=hrel;obtain⟨ws,rfl⟩:=aRX wr;by_cases af:k<N
  ·obtain⟨b,o,c2,s,dv,hA,hb,_,hs,au,hd,c0,c1,c2',c3⟩:=xG (H.out.keep eR HB.out) (k:=k) (aQ (by rw[HN.out];exact af));simp only[Value.slice.injEq] at hA;obtain⟨rfl,-,rfl⟩:=hA;have fF:k<xs.length:=by rw[HN.out];exact af
   obtain⟨x,hx⟩:=aRZ (xs[k]);rw[hx] at c1 c2' hs hd;have hR:bO ws w.heap.size [.string s,.int .i64 x.type,.int .i64 x.life,dv] x:=⟨s,dv,hs,au,hd,rfl⟩;have HR:=jq hR;have HX:=jq hx;obtain⟨dA,dn,dc,rfl,_,_,_⟩:=aM hd;have dS:(0:Int)<=(k:Int):=by omega
   have dp:(k:Int)<(N:Int):=by omega
   clear hs hd hR hx;go_wp2_with fail;refine (HP.out _ x _ (by rw[<-HX.out];exact List.getElem_mem fF) (HB.out.trans ((aj ws _).mono HB.out.size)) (jG _ _ _ _ _ (eR _ _ _ _ _ HR.out ((aj ws _).mono HB.out.size)) (by have:=HB.out.size;simp;omega))).mono ?_;rintro e w3 ⟨rfl,ai⟩;obtain⟨r,hr⟩:=aRZ (p x);rw[hr];have mJ:Hid (p xs[k]=r):=jq (by rw[HX.out];exact hr);have aH:=jq (show Below ws.heap.size ws w3 from (aj ws _).trans (ai.mono (by simp)));have am:=jq (HB.out.trans (aH.out.mono HB.out.size));have CC:=HO.out.keep eR aH.out HB.out.size;have pu:=jq CC
   cases r with
   | false=>
    clear hr ai c0 c1 c2' c3 CC;go_wp2_with fail;go_roundw
    case rel=>exact⟨k+1,n,A',c',by omega,by go_num,rfl,by omega,jq (by rw[qP fF,mJ.out];simpa using fo.out),jq (by rw[qP fF,mJ.out];simpa using pu.out),am⟩
    ·simp[intOf]<;>omega
   | true=>
    obtain⟨Q,hQ⟩:=aRZ w3.heap.size;have l3:ws.heap.size<w3.heap.size:=by have:=ai.size;simp only[World.size_alloc] at this;omega
    have j0:w3.cell? ⟨ws.heap.size,0,none⟩=some (.string s):=by rw[ai.cell (by simp)];go_simp
    have j1:w3.cell? ⟨ws.heap.size,1,none⟩=some (.int .i64 x.type):=by rw[ai.cell (by simp)];go_simp
    have j2:w3.cell? ⟨ws.heap.size,2,none⟩=some (.int .i64 x.life):=by rw[ai.cell (by simp)];go_simp
    have j3:w3.cell? ⟨ws.heap.size,3,none⟩=some (.slice dA dn dc):=by rw[ai.cell (by simp)];go_simp
    obtain⟨wh,li⟩:=aRZ (w3.alloc (.cells #[.string s,.int .i64 x.type,.int .i64 x.life,.slice dA dn dc] 25));have ij:Below w3.heap.size w3 wh:=by rw[<-li];exact aj _ _
    obtain⟨v',wj,ed,oH,aJ⟩:=aqX (CC.keep eR ij am.out.size) 198 Q [.string s,.int .i64 x.type,.int .i64 x.life,.slice dA dn dc] x (bD hQ li)
     (eR _ _ _ _ _ HR.out ((aH.out.mono HB.out.size).trans (ij.mono am.out.size))) (by rw[fo.out];omega) (by have:=am.out.size;have:=ij.size;omega)
    obtain⟨A2,n2,c4,rfl,fG⟩:=oH.letF;have rS:Hid (n2=n+1):=jq (by rw[<-fG,List.length_append,fo.out];rfl);have tA:=jq ed;have yk:=jq oH;have cU:=jq (am.out.trans ((ij.mono am.out.size).trans aJ));have ZQ:ws.heap.size≠Q:=by omega
    clear hr ai c0 c1 c2' c3 CC ed oH aJ ij fG af;go_wp2_with (at_builtin;refine AT rfl _ _ 198 rfl _ _ _ wj rfl rfl tA.out ?_;clear li j0 j1 j2 j3);go_roundw
    case rel=>exact⟨k+1,n2,A2,c4,by omega,by go_num,rfl,by have:=rS.out;omega,jq (by rw[qP fF,mJ.out,List.length_append,fo.out];simpa using rS.out.symm),jq (by rw[qP fF,mJ.out];simpa [HX.out] using yk.out),cU⟩
    ·simp[intOf]<;>omega
  ·obtain rfl:k=N:=by omega
   go_wp2_with fail;go_ret;refine⟨_,rfl,?_,HB.out⟩
   have:=HO.out.slr jG HB.out.size (by rw[fo.out];omega)
   rwa [kQ (by rw[HN.out];omega)] at this
def tq(w:World)(B:Nat)(xs:List Value):Prop:=∀ j x,xs[j]?=some x->w.cell? ⟨B,j,none⟩=some x/\w.frozen? ⟨B,j,none⟩=false
theorem tq.keep{w w':World}{B n:Nat}{xs:List Value}(h:tq w B xs)(hb:Below n w w')(hB:B<n):tq w' B xs:=λj x hx=>by
 obtain⟨h3,h4⟩:=h j x hx;exact⟨(hb.cell (p:=⟨B,j,none⟩) hB).trans h3,(hb.frozen (p:=⟨B,j,none⟩) hB).trans h4⟩
theorem tq.store{w:World}{B:Nat}{xs:List Value}(h:tq w B xs){k:Nat}(hk:k<xs.length)(u:Value):tq (w.setCell ⟨B,k,none⟩ u) B (xs.set k u):=λj x hx=>by
 rw[List.getElem?_set] at hx;by_cases sX:k=j
 ·subst sX;rw[QbQ rfl,QbQ hk] at hx
  cases hx
  obtain⟨h3,h4⟩:=h k _ (aQ hk);exact⟨by simp[World.cell?_setCell_same,h3],(World.frozen?_setCell _ _ _ _).trans h4⟩
 ·rw[Qc sX] at hx;obtain⟨h3,h4⟩:=h j x hx;exact⟨by rw[xQ _ _ _ _ (by simp<;>omega)];exact h3,(World.frozen?_setCell _ _ _ _).trans h4⟩
def jO(R n k:Nat)(ds:List Np.Datum)(w:World):Prop:=∃ xs:List Value,tq w R xs/\xs.length=2 * n/\∀ (j:Nat) (d:Np.Datum),j<k->ds[j]?=some d->xs[2 * j]?=some (.int .i64 d.n)/\xs[2 * j+1]?=some (.int .i64 d.m)
theorem jO.keep{R n k N:Nat}{ds:List Np.Datum}{w w':World}(h:jO R n k ds w)(hb:Below N w w')(hR:R<N):jO R n k ds w':=by
 obtain⟨xs,h1,h2⟩:=h;exact⟨xs,h1.keep hb hR,h2⟩
theorem jO.store{R n k:Nat}{ds:List Np.Datum}{w:World}(h:jO R n k ds w)(hk:k<n){d:Np.Datum}(hd:ds[k]?=some d):jO R n (k+1) ds ((w.setCell ⟨R,k * 2,none⟩ (.int .i64 d.n)).setCell ⟨R,k * 2+1,none⟩ (.int .i64 d.m)):=by
 obtain⟨xs,h1,h2,h3⟩:=h;refine⟨(xs.set (k * 2) (.int .i64 d.n)).set (k * 2+1) (.int .i64 d.m),(h1.store (by omega) _).store (by simp;omega) _,by simp[h2],λj e hj he=>?_⟩;rw[List.getElem?_set,List.getElem?_set,List.getElem?_set,List.getElem?_set];by_cases Za:j=k
 ·subst Za;rw[hd] at he;cases he;rw[Qc (by omega),QbQ (by omega),QbQ (by omega),QbQ (by omega),QbQ (by simp;omega)];exact⟨rfl,rfl⟩
 ·obtain⟨h4,h5⟩:=h3 j e (by omega) he;rw[Qc (by omega),Qc (by omega),Qc (by omega),Qc (by omega)];exact⟨h4,h5⟩
theorem jO.slr{R n:Nat}{ds:List Np.Datum}{w:World}(h:jO R n n ds w)(hn:ds.length=n)(hR:R<w.heap.size)(h9:n<=1000):SlR iS 2 w w.heap.size (.slice (some ⟨R,0,none⟩) n n) (ds.map λd=>⟨d.n,d.m⟩):=by
 obtain⟨xs,h1,h2,h3⟩:=h;have hl:(ds.map λd=>(⟨d.n,d.m⟩:Np.Key)).length=n:=by rw[List.length_map,hn]
 refine⟨_,n,by rw[hl],by rw[hl];exact bQ _,by rw[hl];omega,λj k hk=>?_⟩;rw[List.getElem?_map] at hk
 cases hd:ds[j]? with
 | none=>rw[hd] at hk;cases hk
 | some d=>
  rw[hd] at hk;cases hk;have hj:=(cQ.1 hd).1;obtain⟨h4,h5⟩:=h3 j d (by omega) hd;refine⟨R,0,[.int .i64 d.n,.int .i64 d.m],rfl,hR,rfl,λi v hv=>?_,rfl⟩
  match i,hv with
  | 0,hv=>cases hv;have:=(h1 _ _ h4).1;rw[show 0+j * 2+0=2 * j by omega];exact this
  | 1,hv=>cases hv;have:=(h1 _ _ h5).1;rw[show 0+j * 2+1=2 * j+1 by omega];exact this
theorem Tryz.infoKeyV:(prog.info? 53).map (λi=>(i.zero,i.size,i.bytes))=some (some (.agg #[.int .i64 0,.int .i64 0]),2,16):=by kernel_rfl
theorem alJ(n:Nat)(hn:n<=20000)(w:World):(Instr.makeSlice 46 (.int .i64 n) (.int .i64 n)).run prog w = .ok (.slice (some ⟨w.heap.size,0,none⟩) n n) (w.alloc (.cells (madeCells #[Value.int .i64 0,Value.int .i64 0] (n * 2)) 53)):=by
 obtain⟨i,hi,hp⟩:=Option.map_eq_some_iff.1 Tryz.infoKeyV;simp only[Prod.mk.injEq] at hp;obtain⟨hz,hs,hb⟩:=hp
 have:=run_make (P:=prog) w 46 53 i (.agg #[.int .i64 0,.int .i64 0]) underlying46 hi hz .i64 .i64 n n (by omega) (Int.le_refl _) (by rw[hb];omega) (by omega)
 rw[hs] at this;simpa [Value.cells] using this
theorem akY(n j:Nat)(hj:j<n):(madeCells #[Value.int .i64 0,Value.int .i64 0] n)[j]?=some (.int .i64 0):=by
 unfold madeCells
 have:j % 2=0\/j % 2=1:=by omega
 rcases this with h | h<;>simp[hj,h]
theorem afX{R n:Nat}{ds:List Np.Datum}{w1 w2:World}{Z:Array Value}{T:TypeId}(hZ:∀ j,j<n * 2->Z[j]?=some (.int .i64 0))(bx:w1.heap.size=R)(aX:w1.alloc (.cells Z T)=w2):jO R n 0 ds w2:=by
 refine⟨List.replicate (2 * n) (.int .i64 0),λj u hj=>?_,by simp,λj d hj=>by omega⟩;rw[List.getElem?_replicate] at hj;split at hj
 ·rename_i GJ
  cases hj
  have h1:=heap_alloc_new w1 (.cells Z T);rw[aX,bx] at h1;refine⟨?_,by simp[World.frozen?,h1]⟩;unfold World.cell?;dsimp only;rw[h1];simpa using hZ j (by omega)
 ·cases hj
def Rb(ds:List Np.Datum)(w:World)(e:Ending)(w':World):Prop:=∃ R n,e = .returned (.slice (some ⟨R,0,none⟩) n n)/\w.heap.size<=R/\R<w'.heap.size/\ds.length=n/\jO R n n ds w'/\Below w.heap.size w w'
theorem Pz(x:Np.DSet)(h9:x.data.length<=1000)(e:List Value)(w:World)(he:bO w w.heap.size e x) :
 Calls prog 126 #[.agg e.toArray] w (Rb x.data w):=by
 obtain⟨s,v,hs,au,hd,rfl⟩:=he;obtain⟨A,n,c,rfl,hn,_,_⟩:=aM hd;have HD:=jq hd;have HN:=jq hn;have zW:n<=1000:=by omega
 have gH:=alJ n (by omega);have HZ:Hid (∀ j,j<n * 2->(madeCells #[Value.int .i64 0,Value.int .i64 0] (n * 2))[j]?=some (.int .i64 0)):=jq (λj hj=>akY _ _ hj);have Fc:Hid ((madeCells #[Value.int .i64 0,Value.int .i64 0] (n * 2)).size=n * 2):=jq (by simp[madeCells]);generalize madeCells #[Value.int .i64 0,Value.int .i64 0] (n * 2)=Z at gH HZ Fc;clear hs hd hn;go_enter func126,ntmps126;go_wp2_with fail;obtain⟨R,hR⟩:=aRZ (w.heap.size+1);have ZP:w.heap.size<R:=by omega
 obtain⟨w1,ah⟩:=aRZ (w.alloc (.cells #[.string s,.int .i64 x.type,.int .i64 x.life,.slice A n c] 25));have bx:w1.heap.size=R:=by rw[<-ah,<-hR];simp
 obtain⟨w2,aX⟩:=aRZ (w1.alloc (.cells Z 53));have M0:Below w.heap.size w w2:=by rw[<-aX,<-ah];exact (blAl).alloc (by simp) _
 have cr:R<w2.heap.size:=by rw[<-aX];simp[bx]
 have Nh:jO R n 0 x.data w2:=afX HZ.out bx aX;have gz:=jq Nh;have ax:=jq M0;rw[ah,aX,hR];clear ah aX gH HZ Fc Nh M0 bx;go_loopw [13] (λi wr=>∃ k:Nat,k<=n/\i = .int .i64 k/\R<wr.heap.size/\Hid (jO R n k x.data wr)/\Hid (Below w.heap.size w wr)) (λi _=>n - (intOf i).toNat)
 case atStart=>exact⟨0,jQ _,rfl,cr,gz,ax⟩
 case round=>
  obtain⟨k,hk,rfl,Dy,HK,HB⟩:=hrel;obtain⟨ws,rfl⟩:=aRX wr;by_cases af:k<n
  ·obtain⟨d,hd⟩:∃ d,x.data[k]?=some d:=⟨_,aQ (by rw[HN.out];exact af)⟩;obtain⟨b,o,c',t,hA,hb,_,_,_,c0,c1,c2⟩:=ug (HD.out.keep br HB.out) hd;simp only[Value.slice.injEq] at hA;obtain⟨rfl,-,rfl⟩:=hA;have Bp:=jq hd;have dS:=kNN k;have dp:(k:Int)<(n:Int):=by omega
   have hwR:ws.heap.size≠R:=by omega
   obtain⟨wy,mZ⟩:=aRZ (ws.alloc (.cells #[.string t,.int .i64 d.n,.int .i64 d.m] 75));have dZ:Below ws.heap.size ws wy:=by rw[<-mZ];exact aj _ _
   have Yi:=HK.out.keep dZ Dy;obtain⟨xs,mz,m9,_⟩:=Yi;obtain⟨h3,f3⟩:=mz (k * 2) _ (aQ (by omega));obtain⟨h4,f4⟩:=mz (k * 2+1) _ (aQ (by omega));generalize xs[k * 2]'(by omega)=u3 at h3;generalize xs[k * 2+1]'(by omega)=u4 at h4;have SN:=jq (HK.out.keep dZ Dy);have nT:=jq (HB.out.trans (dZ.mono HB.out.size));have qc:R<wy.heap.size:=by have:=dZ.size;omega
   have fY:=bD (r:=[.string t,.int .i64 d.n,.int .i64 d.m]) rfl mZ;have y1:=fY 1 _ rfl;have y2:=fY 2 _ rfl;clear hd dZ mz fY;go_wp2_with fail;go_roundw
   case rel=>exact⟨k+1,by omega,by go_num,by simp[World.setCell];omega,jq (SN.out.store af Bp.out),jq ((nT.out.blSe (p:=⟨R,k * 2,none⟩) _).blSe (p:=⟨R,k * 2+1,none⟩) _)⟩
   ·simp[intOf]<;>omega
  ·obtain rfl:k=n:=by omega
   go_wp2_with fail;go_ret;exact⟨R,k,rfl,by omega,Dy,HN.out,HK.out,HB.out⟩
theorem Py(x:Np.DSet)(h9:x.data.length<=1000)(e:List Value)(w:World)(he:bO w w.heap.size e x) :
 Calls prog 126 #[.agg e.toArray] w (Jg iS 2 (Np.i9 x) w):=
 (Pz x h9 e w he).mono λ_ _ ⟨_,_,he,_,h2,hn,hk,hb⟩=>⟨_,he,hk.slr hn h2 (by omega),hb⟩
theorem gZ{w:World}{B:Nat}{e:List Value}{x:Np.Signed}(h:aB w B e x):∃ (s:ByteArray) (dA:Option Addr) (dn dc:Nat) (gA:Option Addr) (gn gc:Nat),e = [.string s,.int .i64 x.set.type,.int .i64 x.set.life,.slice dA dn dc,.slice gA gn gc]/\s.data.toList=x.set.name/\s.size<=140737488355328/\x.set.data.length=dn/\x.sigs.length=gn/\SlR bS 3 w B (.slice dA dn dc) x.set.data/\SlR dw 6 w B (.slice gA gn gc) x.sigs:=by
 obtain⟨s,v,u,hs,hz,hd,hg,rfl⟩:=h;obtain⟨dA,dn,dc,rfl,h1,_,_⟩:=aM hd;obtain⟨gA,gn,gc,rfl,h2,_,_⟩:=aM hg;exact⟨s,dA,dn,dc,gA,gn,gc,rfl,hs,hz,h1,h2,hd,hg⟩
theorem aB.later{w w':World}{e:List Value}{x:Np.Signed}(h:aB w w.heap.size e x)(hb:Below w.heap.size w w'):aB w' w'.heap.size e x:=bf _ _ _ _ _ (az _ _ _ _ _ h hb) hb.size
def wm(kv:Value)(an:ByteArray)(aty al:Int)(adv:Value)(at' dr:Int):Value:=.agg #[kv,.string an,.int .i64 aty,.int .i64 al,adv,.int .i64 at',.int .i64 dr]
theorem Xn:∀ args w,(callFunc 189 args).run prog w = .ok (.enter 189 args) w:=enters_of func189 (by kernel_rfl) rfl
theorem aEY(bt bn:Nat)(t:Int)(n:ByteArray)(x:Np.Signed)(e:List Value)(w:World)(he:aB w w.heap.size e x)(ct:w.cell? ⟨bt,0,none⟩=some (.int .i64 t))(cn:w.cell? ⟨bn,0,none⟩=some (.string n)) :
 Calls prog 189 #[.agg e.toArray,.pointer (some ⟨bt,0,none⟩),.pointer (some ⟨bn,0,none⟩)] w (aUQ w.heap.size w (.bool (decide (x.set.type=t)&&x.set.name == n.data.toList))):=by
 have lt:=World.block_lt_of_cell? w _ ct;have ln:=World.block_lt_of_cell? w _ cn;simp only at lt ln;obtain⟨s,dA,dn,dc,gA,gn,gc,rfl,hs,_,_,_,_,_⟩:=gZ he;rw[<-hs];clear hs he;have HB:=jq (aj w);by_cases h1:x.set.type=t
 ·have h2:(x.set.type == t)=true:=by simpa using h1
  have h3:(s.toList == n.toList)=(s.data.toList == n.data.toList):=by rw[dQ,dQ]
  obtain⟨r,hr⟩:=aRZ (s.data.toList == n.data.toList);rw[hr] at h3 |-;have H1:=jq h1;clear h1 hr;go_enter func189,ntmps189;go_wp2_with fail;go_ret;exact⟨aw (by rw[uQ H1.out];rfl),HB.out _⟩
 ·have h2:(x.set.type == t)=false:=by simpa using h1
  have H1:=jq h1;clear h1;go_enter func189,ntmps189;go_wp2_with fail;go_ret;exact⟨aw (by rw[tQ H1.out];rfl),HB.out _⟩
theorem Fj{α:Type}(p:α->Bool)(xs:List α):xs.any p=(xs.find? p).isSome:=by
 rw[Bool.eq_iff_iff,List.find?_isSome,List.any_eq_true]
def AV(B:Nat)(known:List Np.Signed)(n:List UInt8)(t:Int)(w:World)(e:Ending)(w':World):Prop:=
 ∃ (s:ByteArray) (a b:Int) (dA:Option Addr) (dn dc:Nat) (gA:Option Addr) (gn gc:Nat),e = .returned (.tuple #[.agg #[.string s,.int .i64 a,.int .i64 b,.slice dA dn dc,.slice gA gn gc],.bool (Np.cJ known n t).isSome])/\Below w.heap.size w w'/\
   (∀ x,Np.cJ known n t=some x->aB w' B [.string s,.int .i64 a,.int .i64 b,.slice dA dn dc,.slice gA gn gc] x)/\(Np.cJ known n t=none->s=⟨#[]⟩/\a=0/\b=0/\dA=none/\dn=0/\dc=0/\gA=none/\gn=0/\gc=0)
theorem IK(kv adv:Value)(known:List Np.Signed)(an n:ByteArray)(aty al at' dr t:Int)(w:World)(B:Nat)(hB:B<=w.heap.size)(hk:SlR aB 5 w B kv known)(ha:∃ A n c,adv = .slice A n c) :
 Calls prog 120 #[wm kv an aty al adv at' dr,.string n,.int .i64 t] w (AV B known n.data.toList t w):=by
 have HK:=jq hk;obtain⟨A,N,C,rfl,_,_,_⟩:=aM hk;obtain⟨aA,an',ac,rfl⟩:=ha;unfold wm;have ai:∀ o1 o2 o3 o4:Obj,Below w.heap.size w ((((w.alloc o1).alloc o2).alloc o3).alloc o4):=λo1 o2 o3 o4=>((((vQ _ w).alloc (bQ _) _).alloc (by simp) _).alloc (by simp;omega) _).alloc (by simp;omega) _;have am:=jq ai;clear hk ai;go_enter func120,ntmps120;go_wp2_with fail;refine (ME 189 Xn _ (λs=>decide (s.set.type=t)&&s.set.name == n.data.toList) _ known _ B ?_ ?_ ?_).mono ?_
 ·simp;omega
 ·exact HK.out.keep az ((am.out _ _ _ _).mono hB)
 ·intro W x e hx hW sE oe;refine aEY (w.heap.size+1+1) (w.heap.size+1) t n x e W (bf _ _ _ _ _ oe (by simp at sE;omega)) ?_ ?_
  ·rw[hW.cell (by simp<;>omega)];go_simp
  ·rw[hW.cell (by simp<;>omega)];go_simp
 ·rintro e w5 ⟨s,a,b,v,u,rfl,aI,hf,hz⟩;have HF:=jq (λx hx=>az _ _ _ _ _ (hf x hx) (aI.mono (by simp;omega)));have aK:=jq ((am.out _ _ _ _).trans (aI.mono (by simp;omega)));have zu:∃ (dA:Option Addr) (dn dc:Nat) (gA:Option Addr) (gn gc:Nat),v = .slice dA dn dc/\u = .slice gA gn gc/\(Np.cJ known n.data.toList t=none->s=⟨#[]⟩/\a=0/\b=0/\dA=none/\dn=0/\dc=0/\gA=none/\gn=0/\gc=0):=by
   cases hk:Np.cJ known n.data.toList t with
   | none=>
    have h0:=hz (by rw[Fj];unfold Np.cJ at hk;rw[hk];rfl);simp only[List.cons.injEq,Value.string.injEq,Value.int.injEq,true_and,and_true] at h0;obtain⟨rfl,rfl,rfl,rfl,rfl⟩:=h0;exact⟨none,0,0,none,0,0,rfl,rfl,λ_=>⟨rfl,rfl,rfl,rfl,rfl,rfl,rfl,rfl,rfl⟩⟩
   | some x=>
    obtain⟨s',dA,dn,dc,gA,gn,gc,he,_⟩:=gZ (hf x hk);simp only[List.cons.injEq,Value.string.injEq,Value.int.injEq,true_and,and_true] at he;obtain⟨rfl,rfl,rfl,rfl,rfl⟩:=he;exact⟨dA,dn,dc,gA,gn,gc,rfl,rfl,λh=>by cases h⟩
  obtain⟨dA,dn,dc,gA,gn,gc,rfl,rfl,h0⟩:=zu;have H0:=jq h0;have zw:(known.any λs=>decide (s.set.type=t)&&s.set.name == n.data.toList)=(Np.cJ known n.data.toList t).isSome:=Fj _ _;rw[zw];obtain⟨q,hq⟩:=aRZ ((Np.cJ known n.data.toList t).isSome);rw[hq];have HQ:=jq hq;obtain⟨c5,f5⟩:=dd aI;have l5:w.heap.size+1+1+1<w5.heap.size:=by have:=aI.size;simp at this;omega
  clear hf hz h0 zw hq aI;go_wp2_with fail;refine bodyPost_ret (v:=.tuple #[.agg #[.string s,.int .i64 a,.int .i64 b,.slice dA dn dc,.slice gA gn gc],.bool q]) (by simp[results,results120,go_sem,c5]) rfl ?_
  suffices H:∀ W',Below w.heap.size w5 W'->AV B known n.data.toList t w (.returned (.tuple #[.agg #[.string s,.int .i64 a,.int .i64 b,.slice dA dn dc,.slice gA gn gc],.bool q])) W' by
   refine H _ ?_
   repeat refine Below.setCell ?_ (by simp<;>omega) _
   exact vQ _ _
  exact λW' hW=>⟨s,a,b,dA,dn,dc,gA,gn,gc,by rw[HQ.out],aK.out.trans hW,λx hx=>az _ _ _ _ _ (HF.out x hx) (hW.mono hB),H0.out⟩
theorem aqK{B:Nat}{w:World}{v:Value}{xs:List Np.Key}(h:aY iS 2 53 B B w v xs)(ty:TypeId)(q:Nat)(k:Np.Key)(hc:∀ j u,[Value.int .i64 k.n,.int .i64 k.alg][j]?=some u->w.cell? ⟨q,j,none⟩=some u)(hn:xs.length<=1000000)(hb:B<=w.heap.size) :
 ∃ v' w',(Builtin.append_ #[46,46] ty #[v,.slice (some ⟨q,0,none⟩) 1 1]).run prog w = .ok v' w'/\aY iS 2 53 B B w' v' (xs ++ [k])/\Below B w w':=by
 obtain⟨i0,hi,cH,bx,cr⟩:=info_parts Tryz.infoKeyV;exact h.push (P:=prog) 46 ty i0 _ 16 underlying46 hi cH bx cr rfl (by decide) (by decide) q _ k rfl (λu hu=>by simp at hu;rcases hu with rfl | rfl<;>rfl) hc rfl hn ki (bQ _) hb
theorem agZ{w:World}{B:Nat}{A:Option Addr}{n c:Nat}{xs:List Np.Key}(h:SlR iS 2 w B (.slice A n c) xs){k:Nat}{x:Np.Key}(hx:xs[k]?=some x):∃ (b o:Nat),A=some ⟨b,o,none⟩/\b<B/\w.cell? ⟨b,o+k * 2,none⟩=some (.int .i64 x.n)/\w.cell? ⟨b,o+k * 2+1,none⟩=some (.int .i64 x.alg):=by
 obtain⟨A',c',hv,hc,_,he⟩:=h;simp only[Value.slice.injEq] at hv;obtain⟨rfl,_,_⟩:=hv;obtain⟨b,o,e,rfl,hb,_,hce,rfl⟩:=he k x hx;exact⟨b,o,rfl,hb,hce 0 _ rfl,hce 1 _ rfl⟩
theorem Xd:∀ args w,(callFunc 190 args).run prog w = .ok (.enter 190 args) w:=enters_of func190 (by kernel_rfl) rfl
theorem alX(bk:Nat)(k x:Np.Key)(w:World)(c0:w.cell? ⟨bk,0,none⟩=some (.int .i64 k.n))(c1:w.cell? ⟨bk,1,none⟩=some (.int .i64 k.alg)) :
 Calls prog 190 #[.agg #[.int .i64 x.n,.int .i64 x.alg],.pointer (some ⟨bk,0,none⟩)] w (aUQ w.heap.size w (.bool (decide (x=k)))):=by
 have lk:=World.block_lt_of_cell? w _ c0;simp only at lk;have HB:=jq (aj w);have hd:decide (x=k)=((x.n == k.n)&&(x.alg == k.alg)):=by
  cases x;cases k;simp only[Np.Key.mk.injEq]
  rw[Bool.eq_iff_iff];simp
 rw[hd];clear hd;go_enter func190,ntmps190;go_wp2_with fail
 all_goals
  go_ret;refine⟨aw ?_,HB.out _⟩;clear HB c0 c1;go_light;simp_all
theorem alY(an:Np.DSet)(e1:List Value)(ks:Np.Signed)(e2:List Value)(t d:Int)(w:World)(hR:bL w w.heap.size)(h1:bO w w.heap.size e1 an)(h2:aB w w.heap.size e2 ks) :
 Calls prog 125 #[.agg e1.toArray,.agg e2.toArray,.int .i64 t,.int .i64 d] w (aUQ w.heap.size w (.bool (Np.rx an ks t d))):=by
 have H1:=jq h1;have H2:=jq h2;have HR:=jq hR;obtain⟨s,v,hs,au,hd,rfl⟩:=h1;have HS:=jq hs;have HD:=jq hd;obtain⟨A,N,C,rfl,_,_,_⟩:=aM hd;obtain⟨s2,dA,dn,dc,gA,gn,gc,rfl,eN,i8,ju,_,fS,ew⟩:=gZ h2;have jM:=jq eN;have gK:=jq fS;have gL:=jq ew;obtain⟨RES,co⟩:=aRZ (Np.rx an ks t d);rw[co];have aO:Hid (RES=((Np.bo an&&decide (an.type=6))&&((Np.bo ks.set&&(decide (ks.set.type=7)&&ks.set.name == an.name)) &&
  Np.e8 ks an.name ((Np.i9 ks.set).filter λk=>(Np.i9 an).any λx=>decide (x=k)) t d))):=jq (by rw[<-co];rfl)
 obtain⟨w1,ah⟩:=aRZ (w.alloc (.cells #[.string s,.int .i64 an.type,.int .i64 an.life,.slice A N C] 25));have z1:w1.heap.size=w.heap.size+1:=by rw[<-ah];simp
 obtain⟨w0,cN⟩:=aRZ (w1.alloc (.cells #[.string s2,.int .i64 ks.set.type,.int .i64 ks.set.life,.slice dA dn dc,.slice gA gn gc] 44));have ix:Below w.heap.size w w0:=by rw[<-cN,<-ah];exact (blAl).alloc (by simp) _
 have ay:Below w1.heap.size w1 w0:=by rw[<-cN];exact aj _ _
 have l0:w.heap.size+1<w0.heap.size:=by rw[<-cN];simp;omega
 have tg:=bD (r:=[.string s,.int .i64 an.type,.int .i64 an.life,.slice A N C]) rfl ah;have gI:=bD (r:=[.string s2,.int .i64 ks.set.type,.int .i64 ks.set.life,.slice dA dn dc,.slice gA gn gc]) z1 cN;have ep:Hid (∀ wz,Below w0.heap.size w0 wz->∀ (j:Nat) u,[Value.string s,.int .i64 an.type,.int .i64 an.life,.slice A N C][j]?=some u->wz.cell? ⟨w.heap.size,j,none⟩=some u):=jq (λwz hb j u hj=>aQY hb ((cl ay (by omega)).trans (tg j u hj)));have iP:Hid (∀ wz,Below w0.heap.size w0 wz->∀ (j:Nat) u,[Value.string s2,.int .i64 ks.set.type,.int .i64 ks.set.life,.slice dA dn dc,.slice gA gn gc][j]?=some u->wz.cell? ⟨w.heap.size+1,j,none⟩=some u):=jq (λwz hb j u hj=>(hb.cell (p:=⟨w.heap.size+1,j,none⟩) l0).trans (gI j u hj));have aG:=jq ix;have fJ:Hid (bO w0 w0.heap.size [.string s,.int .i64 an.type,.int .i64 an.life,.slice A N C] an):=jq (H1.out.later ix);have rP:Hid (bO w0 w0.heap.size [.string s2,.int .i64 ks.set.type,.int .i64 ks.set.life,.slice dA dn dc] ks.set):=jq (bO.later ⟨s2,_,eN,i8,fS,rfl⟩ ix);have a0:=ep.out w0 (vQ _ _) 0 _ rfl;have a1:=ep.out w0 (vQ _ _) 1 _ rfl;have a2:=ep.out w0 (vQ _ _) 2 _ rfl;have a3:=ep.out w0 (vQ _ _) 3 _ rfl;clear hs hd eN fS ew h2 hR co ix ay tg gI;go_enter func125,ntmps125;go_wp2_with fail;clear cN ah z1;go_wp2_with fail;refine (oX s au an.type an.life _ an.data w0 ((HR.out.keep aG.out).more aG.out.size) (HD.out.later br bB aG.out)).mono ?_;rintro e w2 ⟨rfl,hb⟩;have ax:=jq hb;have dL:=jq (aG.out.trans (ax.out.mono aG.out.size));rw[show (⟨s.data.toList,an.type,an.life,an.data⟩:Np.DSet)=an by rw[HS.out]];obtain⟨r,hr⟩:=aRZ (Np.bo an);rw[hr] at aO |-;have tT:=jq hr;clear hr hb a0 a2 a3
 cases r with
 | false=>
  have HE:Hid (RES=false):=aO;go_wp2_with fail;go_ret;exact⟨aw HE.out.symm,dL.out⟩
 | true=>
  have b1:=ep.out w2 ax.out 1 _ rfl;by_cases dt:an.type=6
  case' neg=>
   have tc:(an.type == 6)=false:=by simpa using dt
   have td:(an.type != 6)=true:=by simpa using dt
   have HE:Hid (RES=false):=jq (by rw[aO.out,tQ dt];rfl);clear dt;go_wp2_with fail;go_ret;exact⟨aw HE.out.symm,dL.out⟩
  have tc:(an.type == 6)=true:=by simpa using dt
  have td:(an.type != 6)=false:=by simpa using dt
  replace aO:Hid (RES=((Np.bo ks.set&&(decide (ks.set.type=7)&&ks.set.name == an.name)) &&
   Np.e8 ks an.name ((Np.i9 ks.set).filter λk=>(Np.i9 an).any λx=>decide (x=k)) t d)):=jq (by rw[aO.out,uQ dt];rfl)
  have k0:=iP.out w2 ax.out 0 _ rfl;have k1:=iP.out w2 ax.out 1 _ rfl;have k2:=iP.out w2 ax.out 2 _ rfl;have k3:=iP.out w2 ax.out 3 _ rfl;clear dt;go_wp2_with fail;refine (oX s2 i8 ks.set.type ks.set.life _ ks.set.data w2 ((HR.out.keep dL.out).more dL.out.size) (gK.out.later br bB dL.out)).mono ?_;rintro e w3 ⟨rfl,hb⟩;have am:=jq (ax.out.trans (hb.mono ax.out.size));have dM:=jq (aG.out.trans (am.out.mono aG.out.size));rw[show (⟨s2.data.toList,ks.set.type,ks.set.life,ks.set.data⟩:Np.DSet)=ks.set by rw[jM.out]];obtain⟨r,hr⟩:=aRZ (Np.bo ks.set);rw[hr] at aO |-;have Vd:=jq hr;clear hr hb b1 k0 k1 k2 k3 tc td
  cases r with
  | false=>
   have HE:Hid (RES=false):=aO;go_wp2_with fail;go_ret;exact⟨aw HE.out.symm,dM.out⟩
  | true=>
   have k1:=iP.out w3 am.out 1 _ rfl;by_cases dt:ks.set.type=7
   case' neg=>
    have tc:(ks.set.type == 7)=false:=by simpa using dt
    have td:(ks.set.type != 7)=true:=by simpa using dt
    have HE:Hid (RES=false):=jq (by rw[aO.out,tQ dt];rfl);clear dt;go_wp2_with fail;go_ret;exact⟨aw HE.out.symm,dM.out⟩
   have tc:(ks.set.type == 7)=true:=by simpa using dt
   have td:(ks.set.type != 7)=false:=by simpa using dt
   replace aO:Hid (RES=((ks.set.name == an.name)&&Np.e8 ks an.name ((Np.i9 ks.set).filter λk=>(Np.i9 an).any λx=>decide (x=k)) t d)):=jq (by rw[aO.out,uQ dt];rfl);have k0:=iP.out w3 am.out 0 _ rfl;have a0:=ep.out w3 am.out 0 _ rfl;have a1:=ep.out w3 am.out 1 _ rfl;have a2:=ep.out w3 am.out 2 _ rfl;have a3:=ep.out w3 am.out 3 _ rfl;clear dt;by_cases gt:s2.data.toList=s.data.toList
   case' neg=>
    have fG:(s2.toList == s.toList)=false:=by rw[dQ,dQ];simpa using gt
    have HE:Hid (RES=false):=jq (by rw[aO.out,<-jM.out,<-HS.out,show (s2.data.toList == s.data.toList)=false by simpa using gt];rfl);clear gt;go_wp2_with fail;go_ret;exact⟨aw HE.out.symm,dM.out⟩
   have fG:(s2.toList == s.toList)=true:=by rw[dQ,dQ,gt];simp
   replace aO:Hid (RES=Np.e8 ks an.name ((Np.i9 ks.set).filter λk=>(Np.i9 an).any λx=>decide (x=k)) t d):=jq (by rw[aO.out,<-jM.out,<-HS.out,gt];simp);clear gt;go_wp2_with fail;obtain⟨KA,F1⟩:=aRZ (Np.i9 an);obtain⟨KK,Cx⟩:=aRZ (Np.i9 ks.set);have Zf:an.data.length<=8:=(Np.vv tT.out).2.2.2.2.2.2.1;have Oq:ks.set.data.length<=8:=(Np.vv Vd.out).2.2.2.2.2.2.1;have Ni:KK.length<=8:=by rw[<-Cx];unfold Np.i9;rw[List.length_map];exact Oq
   rw[F1,Cx] at aO;have SG:=jq F1;have SJ:=jq Cx;have SK:=jq Ni;refine (Py an (by omega) _ w3 (fJ.out.later am.out)).mono ?_;rintro e w4 ⟨v4,rfl,kf,av⟩;rw[SG.out] at kf;have vR:=jq kf;have aF:=jq (am.out.trans (av.mono am.out.size));obtain⟨A4,N4,C4,rfl,_,_,_⟩:=aM kf;have k0':=iP.out w4 aF.out 0 _ rfl;have k1':=iP.out w4 aF.out 1 _ rfl;have k2':=iP.out w4 aF.out 2 _ rfl;have k3':=iP.out w4 aF.out 3 _ rfl;clear kf av F1 Cx Ni k0 k1 a0 a1 a2 a3 tc td fG;go_wp2_with fail;refine (Py ks.set (by omega) _ w4 (rP.out.later aF.out)).mono ?_;rintro e w5 ⟨v5,rfl,xj,aI⟩;rw[SJ.out] at xj;have qF:=jq xj;have aK:=jq (aF.out.trans (aI.mono aF.out.size));have TR:=jq (vR.out.later ki oZ aI);obtain⟨A5,N5,C5,rfl,Cy,_,_⟩:=aM xj;have J4:=jq Cy;have aVJ:N5<=8:=by have:=SK.out;omega
   clear xj aI k0' k1' k2' k3' Cy vR Zf Oq;go_wp2_with fail;go_loopw [10,47] (λkv i wr=>∃ (k n:Nat) (A':Option Addr) (c':Nat),k<=N5/\i = .int .i64 k/\kv = .slice A' n c'/\n<=k/\Hid (((KK.take k).filter λk=>KA.any λx=>decide (x=k)).length=n)/\Hid (aY iS 2 53 w5.heap.size w5.heap.size wr (.slice A' n c') ((KK.take k).filter λk=>KA.any λx=>decide (x=k)))/\Hid (Below w5.heap.size w5 wr)) (λ_ i _=>N5 - (intOf i).toNat)
   case atStart=>exact⟨0,0,none,0,jQ _,rfl,rfl,bQ _,jq (by simp),jq (aY.nil w5),jq (vQ _ _)⟩
   case round=>
    obtain⟨k,n,A',c',hk,rfl,rfl,Zo,fo,HO,HB⟩:=hrel;obtain⟨ws,rfl⟩:=aRX wr;by_cases af:k<N5
    ·have fF:k<KK.length:=by rw[J4.out];exact af
     obtain⟨x,hx⟩:=aRZ (KK[k]);obtain⟨b,o,rfl,hb,c0,c1⟩:=agZ (qF.out.keep ki HB.out) (k:=k) (aQ fF);rw[hx] at c0 c1;have HX:=jq hx;have dS:(0:Int)<=(k:Int):=by omega
     have dp:(k:Int)<(N5:Int):=by omega
     obtain⟨wy,mZ⟩:=aRZ (ws.alloc (.cells #[.int .i64 x.n,.int .i64 x.alg] 53));have fY:=bD (r:=[.int .i64 x.n,.int .i64 x.alg]) rfl mZ;have dX:=jq fY;have dZ:Below ws.heap.size ws wy:=by rw[<-mZ];exact aj _ _
     have qc:ws.heap.size<wy.heap.size:=by rw[<-mZ];simp
     have nT:=jq dZ;clear hx fY dZ;go_wp2_with fail;clear mZ c0 c1;go_wp2_with fail;refine (MD 190 Xd #[.pointer (some ⟨ws.heap.size,0,none⟩)] (λy=>decide (y=x)) _ KA wy wy.heap.size (bQ _) (TR.out.later ki oZ (HB.out.trans (nT.out.mono HB.out.size))) ?_).mono ?_
     ·intro W y e hy hW sE sJ;obtain rfl:=sJ;exact alX ws.heap.size x y W ((hW.cell (p:=⟨ws.heap.size,0,none⟩) qc).trans (dX.out 0 _ rfl)) ((hW.cell (p:=⟨ws.heap.size,1,none⟩) qc).trans (dX.out 1 _ rfl))
     ·rintro e w6 ⟨qa,qb,rfl,bh,_,_⟩;have aU:=jq (nT.out.trans (bh.mono nT.out.size));obtain⟨r,hr⟩:=aRZ (KA.any λy=>decide (y=x));rw[hr];have mJ:Hid ((λk=>KA.any λy=>decide (y=k)) KK[k]=r):=jq (by rw[HX.out];exact hr);have j0:w6.cell? ⟨ws.heap.size,0,none⟩=some (.int .i64 x.n):=(bh.cell (p:=⟨ws.heap.size,0,none⟩) qc).trans (dX.out 0 _ rfl);have j1:w6.cell? ⟨ws.heap.size,1,none⟩=some (.int .i64 x.alg):=(bh.cell (p:=⟨ws.heap.size,1,none⟩) qc).trans (dX.out 1 _ rfl);have l6:ws.heap.size<w6.heap.size:=by have:=bh.size;omega
      clear hr bh;obtain⟨w7,eF⟩:=aRZ (w6.alloc (.cells #[.int .i64 qa,.int .i64 qb] 53));have bm:Below w6.heap.size w6 w7:=by rw[<-eF];exact aj _ _
      have ti:w6.heap.size<w7.heap.size:=by rw[<-eF];simp
      have cL:=jq (aU.out.trans (bm.mono aU.out.size));have bU:=jq (HB.out.trans (cL.out.mono HB.out.size));have CD:=HO.out.keep ki cL.out HB.out.size;have bC:=jq CD;have i0:w7.cell? ⟨ws.heap.size,0,none⟩=some (.int .i64 x.n):=(bm.cell (p:=⟨ws.heap.size,0,none⟩) l6).trans j0;have i1:w7.cell? ⟨ws.heap.size,1,none⟩=some (.int .i64 x.alg):=(bm.cell (p:=⟨ws.heap.size,1,none⟩) l6).trans j1
      cases r with
      | false=>
       clear CD bm;go_wp2_with fail;clear eF;go_wp2_with fail;go_roundw
       case rel=>exact⟨k+1,n,A',c',by omega,by go_num,rfl,by omega,jq (by rw[qP fF,mJ.out];simpa using fo.out),jq (by rw[qP fF,mJ.out];simpa using bC.out),bU⟩
       ·simp[intOf]<;>omega
      | true=>
       obtain⟨Q,hQ⟩:=aRZ w7.heap.size;obtain⟨wh,li⟩:=aRZ (w7.alloc (.cells #[.int .i64 x.n,.int .i64 x.alg] 53));have ij:Below w7.heap.size w7 wh:=by rw[<-li];exact aj _ _
       obtain⟨v',wj,ed,oH,aJ⟩:=aqK (CD.keep ki ij bU.out.size) 46 Q x (bD (r:=[.int .i64 x.n,.int .i64 x.alg]) hQ li) (by rw[fo.out];omega) (by have:=bU.out.size;have:=ij.size;omega);obtain⟨A2,n2,c4,rfl,fG⟩:=oH.letF;have rS:Hid (n2=n+1):=jq (by rw[<-fG,List.length_append,fo.out];rfl);have tA:=jq ed;have yk:=jq oH;have cU:=jq (bU.out.trans ((ij.mono bU.out.size).trans aJ));have ZQ:ws.heap.size≠Q:=by omega
       have HQ:=jq hQ;clear CD bm ed oH aJ ij fG af;go_wp2_with (at_builtin;refine AT rfl _ _ 46 rfl _ _ _ wj rfl rfl tA.out ?_;clear li eF i0 i1 j0 j1);go_roundw
       case rel=>exact⟨k+1,n2,A2,c4,by omega,by go_num,rfl,by have:=rS.out;omega,jq (by rw[qP fF,mJ.out,List.length_append,fo.out];simpa using rS.out.symm),jq (by rw[qP fF,mJ.out];simpa [HX.out] using yk.out),cU⟩
       ·simp[intOf]<;>omega
    ·obtain rfl:k=N5:=by omega
     have cZ:=jq (aK.out.trans (HB.out.mono aK.out.size));have jN:=jq (aG.out.trans (cZ.out.mono aG.out.size));have di:=HO.out.slr oZ HB.out.size (by rw[fo.out];omega);rw[kQ (by rw[J4.out];omega)] at di;have eH:=jq di;have k0:=iP.out ws cZ.out 0 _ rfl;have k1:=iP.out ws cZ.out 1 _ rfl;have k2:=iP.out ws cZ.out 2 _ rfl;have k3:=iP.out ws cZ.out 3 _ rfl;have k4:=iP.out ws cZ.out 4 _ rfl;have a0:=ep.out ws cZ.out 0 _ rfl;clear di af;go_wp2_with fail;refine (Iy s t d _ (KK.filter λk=>KA.any λx=>decide (x=k)) s2 i8 ks.set.type ks.set.life _ _ ks.set.data ks.sigs ws ((HR.out.keep jN.out).more jN.out.size) (gK.out.later br bB jN.out) (gL.out.later cK da jN.out) eH.out).mono ?_;rintro e wz ⟨rfl,hb⟩;have BQ:=jq (jN.out.trans (hb.mono jN.out.size));clear hb k0 k1 k2 k3 k4 a0;go_wp2_with fail;go_ret;exact⟨aw (by rw[aO.out,jM.out,HS.out]),BQ.out⟩
def Mk(p:Bool×Int):Value:=.tuple #[.bool p.1,.int .i64 p.2]
theorem Wz(ap n:ByteArray)(ed:ap.size<=140737488355328)(hn:n.size<=140737488355328)(x:Np.DSet)(e:List Value)(w:World)(hR:bL w w.heap.size)(he:bO w w.heap.size e x) :
 Calls prog 218 #[.string ap,.agg e.toArray,.string n] w (aUQ w.heap.size w (Mk (Np.ue ap.data.toList x n.data.toList))):=by
 have HE:=jq he;have HR:=jq hR;obtain⟨s,v,hs,au,hd,rfl⟩:=he;have HS:=jq hs;have HD:=jq hd;obtain⟨A,k,c,rfl,_,_,_⟩:=aM hd;obtain⟨RES,co⟩:=aRZ (Np.ue ap.data.toList x n.data.toList);rw[co];have aO:Hid (RES=if Np.rF ap.data.toList&&(Np.ao n.data.toList&&(Np.bo x&&Np.fy ap.data.toList x)) then (Np.eJ ap.data.toList x n.data.toList,0) else (false,1)):=jq (by rw[<-co];rfl);obtain⟨w0,cN⟩:=aRZ (w.alloc (.cells #[.string s,.int .i64 x.type,.int .i64 x.life,.slice A k c] 25));have fY:=bD (r:=[.string s,.int .i64 x.type,.int .i64 x.life,.slice A k c]) rfl cN;have cF:Below w.heap.size w w0:=by rw[<-cN];exact aj _ _
 have l0:w.heap.size<w0.heap.size:=by rw[<-cN];simp
 have aG:=jq cF;have dX:Hid (∀ wz,Below w0.heap.size w0 wz->∀ (j:Nat) u,[Value.string s,.int .i64 x.type,.int .i64 x.life,.slice A k c][j]?=some u->wz.cell? ⟨w.heap.size,j,none⟩=some u):=jq (λwz hb j u hj=>(hb.cell (p:=⟨w.heap.size,j,none⟩) l0).trans (fY j u hj));clear hs hd hR co fY cF;go_enter func218,ntmps218;go_wp2_with fail;clear cN;go_wp2_with fail;refine (QE ap ed w0).mono ?_;rintro e w2 ⟨rfl,hb⟩;have ax:=jq hb;obtain⟨r,hr⟩:=aRZ (Np.rF ap.data.toList);rw[hr] at aO |-;clear hr hb
 cases r with
 | false=>
  have HE:Hid (RES=(false,1)):=aO;go_wp2_with fail;go_ret2;exact⟨by rw[HE.out];rfl,aG.out.trans (ax.out.mono aG.out.size)⟩
 | true=>
  go_wp2_with fail;refine (jE n hn w2).mono ?_;rintro e w3 ⟨rfl,hb⟩;have am:=jq (ax.out.trans (hb.mono ax.out.size));obtain⟨r,hr⟩:=aRZ (Np.ao n.data.toList);rw[hr] at aO |-;clear hr hb
  cases r with
  | false=>
   have HE:Hid (RES=(false,1)):=aO;go_wp2_with fail;go_ret2;exact⟨by rw[HE.out];rfl,aG.out.trans (am.out.mono aG.out.size)⟩
  | true=>
   have y0:=dX.out w3 am.out 0 _ rfl;have y1:=dX.out w3 am.out 1 _ rfl;have y2:=dX.out w3 am.out 2 _ rfl;have y3:=dX.out w3 am.out 3 _ rfl;have dM:=jq (aG.out.trans (am.out.mono aG.out.size));go_wp2_with fail;refine (oX s au x.type x.life _ x.data w3 ((HR.out.keep dM.out).more dM.out.size) (HD.out.later br bB dM.out)).mono ?_;rintro e w4 ⟨rfl,hb⟩;have aF:=jq (am.out.trans (hb.mono am.out.size));have Av:(⟨s.data.toList,x.type,x.life,x.data⟩:Np.DSet)=x:=by rw[HS.out]
   rw[Av];obtain⟨r,hr⟩:=aRZ (Np.bo x);rw[hr] at aO |-;have lU:=jq hr;clear hr hb Av y0 y1 y2 y3
   cases r with
   | false=>
    have HE:Hid (RES=(false,1)):=aO;go_wp2_with fail;go_ret2;exact⟨by rw[HE.out];rfl,aG.out.trans (aF.out.mono aG.out.size)⟩
   | true=>
    have y0:=dX.out w4 aF.out 0 _ rfl;have y1:=dX.out w4 aF.out 1 _ rfl;have y2:=dX.out w4 aF.out 2 _ rfl;have y3:=dX.out w4 aF.out 3 _ rfl;have lV:=jq (aG.out.trans (aF.out.mono aG.out.size));go_wp2_with fail;refine (Pn ap ed x _ w4 (HE.out.later lV.out)).mono ?_;rintro e w5 ⟨rfl,hb⟩;have aK:=jq (aF.out.trans (hb.mono aF.out.size));obtain⟨r,hr⟩:=aRZ (Np.fy ap.data.toList x);rw[hr] at aO |-;have ye:=jq hr;clear hr hb y0 y1 y2 y3
    cases r with
    | false=>
     have HE:Hid (RES=(false,1)):=aO;go_wp2_with fail;go_ret2;exact⟨by rw[HE.out];rfl,aG.out.trans (aK.out.mono aG.out.size)⟩
    | true=>
     have Bt:Hid (RES=(Np.eJ ap.data.toList x n.data.toList,0)):=aO;have nq:Hid (Np.NextOk x):=jq ⟨lU.out,by have:=ye.out;unfold Np.fy at this;simp only[Bool.and_eq_true,Qa] at this;exact this.1⟩;have y0:=dX.out w5 aK.out 0 _ rfl;have y1:=dX.out w5 aK.out 1 _ rfl;have y2:=dX.out w5 aK.out 2 _ rfl;have y3:=dX.out w5 aK.out 3 _ rfl;have nX:=jq (aG.out.trans (aK.out.mono aG.out.size));go_wp2_with fail;refine (Ch ap ed x nq.out _ w5 (HE.out.later nX.out) n hn).mono ?_;rintro e w6 ⟨rfl,hb⟩;have E6:=jq (nX.out.trans (hb.mono nX.out.size));clear hb y0 y1 y2 y3;go_wp2_with fail;go_ret2;exact⟨by rw[Bt.out];rfl,E6.out⟩
end
namespace Np
theorem amK{s:DSet}(h:bo s=true)(ht:s.type=3):ao (gY s)=true:=by
 have h1:=(vv h);obtain⟨_,_,_,_,_,h2,_,h3'⟩:=h1;have h3:=Cn h3';unfold gY
 cases hd:s.data with
 | nil=>rw[hd] at h2;simp at h2
 | cons d r=>
  have h4:=h3 d (by rw[hd];simp);rw[ht] at h4;simp[lE,dF,DR,vu] at h4;exact h4.2.1
theorem Cg{known:List Signed}{n:List UInt8}{t:Int}{s:Signed}(h:eu known n t=some s):s∈known/\s.set.name=n/\s.set.type=t/\aE s≠[]:=by
 unfold eu at h;have h1:=List.find?_some h;simp at h1;exact⟨List.mem_of_find?_eq_some h,h1.1.1,h1.1.2,h1.2⟩
theorem Wx{known:List Signed}{n:List UInt8}{t:Int}(h:eu known n t=none):∀ s∈known,¬ (s.set.name=n/\s.set.type=t/\aE s≠[]):=λs hs ⟨h1,h2,h3⟩=>by
 unfold eu at h
 have:=List.find?_eq_none.1 h s hs
 simp[h1,h2,h3] at this
theorem PA{known:List Signed}{n:List UInt8}{t:Int}(h:cJ known n t=none):∀ s∈known,¬ (s.set.name=n/\s.set.type=t):=λs hs ⟨h1,h2⟩=>by
 unfold cJ at h
 have:=List.find?_eq_none.1 h s hs
 simp[h1,h2] at this
def t7(known:List Signed)(q:mK):Prop:=QOk q.1 q.2/\∀ s∈known,¬ (s.set.name=q.1/\s.set.type=q.2/\aE s≠[])
theorem aEK{known:List Signed}{n m:List UInt8}{t u:Int}(h:Found.miss m u∈pc known n t):m=n/\u=t:=by
 unfold pc at h;split at h
 ·simp at h
 ·split at h
  ·simp at h
  ·simpa using h
theorem PK{known:List Signed}(hv:∀ s∈known,bo s.set=true){t:Int} : ∀ (k:Nat) (n:List UInt8),QOk n t->∀ {m u},Found.miss m u∈f8 known t k n->t7 known (m,u)
 | k,n,hq,m,u,h=>by
   unfold f8 at h;split at h
   ·simp at h
   ·rename_i hc;split at h
    ·obtain⟨rfl,rfl⟩:=aEK h;exact⟨hq,Wx hc⟩
    ·rename_i a ha
     cases k with
     | zero=>simp at h
     | succ k=>
      have h':Found.miss m u∈f8 known t k (gY a.set):=by simpa using h
      have ha':eu known n 3=some a:=by
       unfold n9 at ha;split at ha
       ·cases ha
       ·exact ha
      obtain⟨h1,_,h3,_⟩:=Cg ha';exact PK hv k _ ⟨amK (hv a h1) h3,hq.2⟩ h'
theorem aGQ{s z:List UInt8}(h:aT s z=true):ao s=true/\ao z=true/\fk s z=true:=by
 unfold aT at h;simpa using h
theorem QM{known:List Signed} : ∀ (k:Nat) (n:List UInt8),ao n=true->(∀ x∈(bW known k n).1,ao x=true)/\((bW known k n).2.2=4->t7 known (bW known k n).2.1)
 | 0,n,_=>by simp[bW]
 | k+1,n,hn=>by
   unfold bW;split
   ·exact⟨by simpa using hn,by simp⟩
   ·split
    ·rename_i hf;exact⟨by simp,λ_=>⟨⟨hn,show (1:Int)<=6 by decide,show (6:Int)<=8 by decide⟩,λs hs h=>PA hf s hs ⟨h.1,h.2.1⟩⟩⟩
    ·split
     ·simp
     ·rename_i g _ _;split
      ·simp
      ·rename_i hc;simp only[Bool.or_eq_true,Bool.not_eq_true',not_or,Bool.not_eq_false] at hc;have hz:=(aGQ hc.1).2.1;have ih:=QM (known:=known) k g.zone hz;generalize hw:bW known k g.zone=W at ih |-;obtain⟨l,q,e⟩:=W;dsimp only at ih |-;split
       ·exact⟨by simpa using ⟨hn,ih.1⟩,by simp⟩
       ·exact⟨by simp,ih.2⟩
theorem MJ{known:List Signed}{anchor:DSet}{t d:Int} : ∀ (l:List (List UInt8)) (a:List UInt8) (ks:List Key),(∀ x∈l,ao x=true)->(fp known anchor t d l a ks).2.2=4->t7 known (fp known anchor t d l a ks).2.1
 | [],a,ks,_,h=>by simp[fp] at h
 | n::r,a,ks,hl,h=>by
   unfold fp at h |-;split at h
   ·simp at h
   ·rename_i hc;rw[Qc hc];split at h
    ·rename_i hf;exact⟨⟨hl n (by simp),show (1:Int)<=7 by decide,show (7:Int)<=8 by decide⟩,λs hs h=>PA hf s hs ⟨h.1,h.2.1⟩⟩
    ·rename_i k hf;by_cases hm:rx (if n = [46] then anchor else ((cJ known n 6).getD iG).set) k t d=true
     ·rw[QbQ hm] at h |-;exact MJ r n _ (λx hx=>hl x (by simp[hx])) h
     ·rw[Qc hm] at h;simp at h
theorem aqZ{known:List Signed}{anchor:DSet}{zone:List UInt8}{t d:Int}(h:(ja known anchor zone t d).2.2=4):t7 known (ja known anchor zone t d).2.1:=by
 unfold ja at h |-;split at h
 ·simp at h
 ·rename_i h1;rw[Qc h1];split at h
  ·simp at h
  ·rename_i h2;rw[Qc h2];split at h
   ·simp at h
   ·rename_i h3;rw[Qc h3];have hz:ao zone=true:=by
     simp only[not_or,Bool.not_eq_false] at h2;exact h2.1
    have hf:=QM (known:=known) 10 zone hz;generalize hw:bW known 10 zone=W at h hf |-;obtain⟨l,q,e⟩:=W;dsimp only at h hf |-;split at h
    ·rename_i he;rw[QbQ he];exact MJ _ _ _ (λx hx=>hf.1 x (List.mem_reverse.1 hx)) h
    ·rename_i he;rw[Qc he];exact hf.2 h
theorem akQ(known:List Signed)(anchor:DSet)(t d:Int)(s:Signed):(fI known anchor t d s).1=1\/(fI known anchor t d s=(2,([],0)))\/((fI known anchor t d s).1=3/\t7 known (fI known anchor t d s).2):=by
 unfold fI;split
 ·exact .inr (.inl rfl)
 ·have hn:=aqZ (known:=known) (anchor:=anchor) (zone:=aE s) (t:=t) (d:=d);generalize hp:ja known anchor (aE s) t d=W at hn |-;obtain⟨ks,q,e⟩:=W;dsimp only at hn |-;split
  ·split
   ·exact .inl rfl
   ·exact .inr (.inl rfl)
  ·split
   ·rename_i h4;exact .inr (.inr ⟨rfl,hn h4⟩)
   ·exact .inr (.inl rfl)
structure VOk(known:List Signed)(v:Verd)(e:Int):Prop where
 none:e≠0->v=⟨0,([],0),[]⟩
 kinds:e=0->v.kind=1\/v.kind=2\/v.kind=3
 quest:v.kind≠3->v.q=([],0)
 needs:v.kind=3->t7 known v.q/\v.sets = []
theorem Pw{known:List Signed}{anchor:DSet}{t d:Int} : ∀ (l:List Found) (good:List Signed),(∀ m u,Found.miss m u∈l->t7 known (m,u))->VOk known (fj known anchor t d l good).1 (fj known anchor t d l good).2
 | [],good,_=>⟨λh=>absurd rfl h,λ_=>.inl rfl,λ_=>rfl,λh=>by simp[fj] at h⟩
 | .loop::r,good,_=>⟨λ_=>rfl,λh=>by simp[fj] at h,λ_=>rfl,λh=>by simp[fj] at h⟩
 | .miss n u::r,good,h=>⟨λh=>absurd rfl h,λ_=>.inr (.inr rfl),λh=>absurd rfl h,λ_=>⟨h n u (by simp),rfl⟩⟩
 | .set s::r,good,h=>by
   unfold fj;split
   ·exact Pw r _ λm u hm=>h m u (by simp[hm])
   ·rename_i h1;rcases akQ known anchor t d s with k | k | ⟨k,k2⟩
    ·exact absurd k h1
    ·rw[k];exact⟨λh=>absurd rfl h,λ_=>.inr (.inl rfl),λ_=>rfl,λh=>by simp at h⟩
    ·exact⟨λh=>absurd rfl h,λ_=>.inr (.inr k),λh=>absurd k h,λ_=>⟨k2,rfl⟩⟩
theorem Px(known:List Signed)(anchor:DSet)(n:List UInt8)(ty t d:Int):VOk known (eY known anchor n ty t d).1 (eY known anchor n ty t d).2:=by
 have bad:VOk known ⟨0,([],0),[]⟩ 1:=⟨λ_=>rfl,λh=>by simp at h,λ_=>rfl,λh=>by simp at h⟩;unfold eY;split
 ·exact bad
 ·rename_i h1;split
  ·exact bad
  ·rename_i h2;simp only[not_or,Bool.not_eq_false,Bool.not_eq_true] at h1 h2;refine Pw _ _ λm u hm=>PK (λs hs=>?_) 8 n (aQZ.1 h2.1) hm
   have:=List.any_eq_false.1 h1.2.1 s hs
   simpa using this
structure Ans where
 kind:Int
 sets:List Signed
 cut:List UInt8
def xH(g:Sig):Bool:=ao g.zone&&((decide (1<=g.key)&&decide (g.key<=1000000))&&((decide (1<=g.alg)&&decide (g.alg<=3))&&(decide (0<=g.frm)&&(decide (g.frm<=g.til)&&decide (g.til<=20000000)))))
def rD(s:Signed):Bool:=decide (s.sigs.length<=6)&&(bo s.set&&s.sigs.all xH)
def mL(a:Ans):Bool:=(decide (1<=a.kind)&&decide (a.kind<=7))&&(decide (a.sets.length<=40)&&(a.sets.all rD&&(if a.kind=4 then ao a.cut else a.cut == [])))
def vy(s:List UInt8):Bool:=ao s&&(s != [42]&&!([42,46].isPrefixOf s))
def pD(s z:List UInt8):Bool:=s != z&&aT s z
def pf(w s:List UInt8):Bool:=if w = [42] then s != [46] else [42,46].isPrefixOf w&&pD s (w.drop 2)
def pU(a:Ans):List (List UInt8):=match a.sets.find? λs=>s.set.name == a.cut&&decide (s.set.type=2) with
 | none=>[]
 | some s=>s.set.data.map (·.text)
def tn(zone qn:List UInt8)(a:Ans)(s:DSet):Bool:=
 (pD a.cut zone&&aT qn a.cut) &&
   (if s.type=2\/s.type=6\/s.type=8 then s.name == a.cut else decide (s.type=1)&&(aT s.name a.cut&&(pU a).any λx=>x == s.name))
def ll(zone qn:List UInt8)(qt:Int)(a:Ans)(s:DSet):Bool:=
 if a.kind=1 then s.name == qn&&decide (s.type=qt) else
 if a.kind=2 then decide (s.type=8)||(decide (s.type=qt)&&pf s.name qn) else
 if a.kind=3 then decide (s.type=8)||(decide (s.type=3)&&(s.name == qn||pf s.name qn)) else
 if a.kind=4 then tn zone qn a s else
 if a.kind=5\/a.kind=6 then decide (s.type=8)||(decide (s.type=4)&&aT qn s.name) else false
def lD(zone qn:List UInt8)(qt:Int)(a:Ans)(s:Signed):Bool:=aT s.set.name zone&&ll zone qn qt a s.set
noncomputable def fO(zone qn:List UInt8)(qt:Int)(a:Ans):List Signed×Int:=
 if vy zone=false\/yes (QOk qn qt)=false\/mL a=false then ([],1) else
 if aT qn zone=false then ([],0) else (a.sets.filter (lD zone qn qt a),0)
theorem MC{α:Type}{p q:α->Bool} : ∀ {l:List α},(∀ x∈l,p x=true->q x=true)->(l.filter q).find? p=l.find? p
 | [],_=>rfl
 | x::l,h=>by
   have ih:=MC (p:=p) (q:=q) (l:=l) λy hy=>h y (by simp[hy]);by_cases hq:q x=true
   ·rw[List.filter_cons_of_pos hq,List.find?_cons,List.find?_cons,ih]
   ·have hp:p x=false:=by
     cases bw:p x with
     | false=>rfl
     | true=>exact absurd (h x (by simp) bw) hq
    rw[List.filter_cons_of_neg hq,List.find?_cons,hp,ih]
theorem aEX{zone qn:List UInt8}{qt:Int}{a:Ans}{s:Signed} : lD zone qn qt ⟨a.kind,a.sets.filter (lD zone qn qt a),a.cut⟩ s=lD zone qn qt a s:=by
 suffices key:ll zone qn qt ⟨a.kind,a.sets.filter (lD zone qn qt a),a.cut⟩ s.set=ll zone qn qt a s.set from Qd (aT s.set.name zone && ·) key
 unfold ll;dsimp only;by_cases h4:a.kind=4
 ·rw[Qc (by omega),Qc (by omega),Qc (by omega),QbQ h4,Qc (by omega),Qc (by omega),Qc (by omega),QbQ h4];unfold tn;dsimp only;by_cases hb:(pD a.cut zone&&aT qn a.cut)=true
  ·rw[hb]
   have:pU ⟨a.kind,a.sets.filter (lD zone qn qt a),a.cut⟩=pU a:=by
    unfold pU;dsimp only;rw[MC λx _ hx=>?_];simp only[Bool.and_eq_true,beq_iff_eq,Qa] at hx;unfold lD ll;rw[Qc (by omega),Qc (by omega),Qc (by omega),QbQ h4];unfold tn;rw[hb,hx.1,hx.2]
    have:=(Bool.and_eq_true _ _ ▸ hb:pD a.cut zone=true/\aT qn a.cut=true).1
    unfold pD at this;simp only[Bool.and_eq_true] at this;simp[this.2]
   rw[this]
  ·rw[Bool.not_eq_true] at hb;rw[hb];rfl
 ·simp only[Qc h4]
theorem Xv{zone qn:List UInt8}{qt:Int}{a:Ans}(h:(fO zone qn qt a).2=0):fO zone qn qt ⟨a.kind,(fO zone qn qt a).1,a.cut⟩=((fO zone qn qt a).1,0):=by
 unfold fO at h |-;split at h
 ·simp at h
 ·rename_i h1;rw[Qc h1];have h1':=h1;simp only[not_or,Bool.not_eq_false] at h1';have fV:∀ l:List Signed,(∀ x∈l,x∈a.sets)->l.length<=a.sets.length->mL ⟨a.kind,l,a.cut⟩=true:=λl hl hn=>by
   have h2:=h1'.2.2;unfold mL at h2 |-;simp only[Bool.and_eq_true,Qa,List.all_eq_true] at h2 |-;exact⟨h2.1,by have:=h2.2.1;omega,λx hx=>h2.2.2.1 x (hl x hx),h2.2.2.2⟩
  split
  ·rename_i h2;dsimp only;rw[Qc (by simp only[not_or,Bool.not_eq_false];exact⟨h1'.1,h1'.2.1,fV [] (by simp) (by simp)⟩)]
  ·rename_i h2;dsimp only;rw[Qc (by simp only[not_or,Bool.not_eq_false];exact⟨h1'.1,h1'.2.1,fV _ (λx hx=>(List.mem_filter.1 hx).1) (List.length_filter_le _ _)⟩)];congr 1;have e:lD zone qn qt ⟨a.kind,a.sets.filter (lD zone qn qt a),a.cut⟩=lD zone qn qt a:=funext λs=>aEX;rw[e,List.filter_filter];congr 1;funext s;exact Bool.and_self _
theorem aNJ{known:List Signed}{n:List UInt8}{t:Int}{s:Signed}(h:s∈rH known n t):s∈known:=by
 unfold rH at h
 cases hf:(ups n).findSome? λa=>(eu known (dj a) t).bind λs=>(known.find? λp=>aE p == aE s&&nN p.set (aE s) n a).map λp=>[s,p] with
 | none=>rw[hf] at h;simp at h
 | some l=>
  rw[hf] at h;obtain⟨a,_,ha⟩:=List.exists_of_findSome?_eq_some hf;obtain⟨x,hx,hb⟩:=Option.bind_eq_some_iff.1 ha;obtain⟨p,hp,rfl⟩:=Option.map_eq_some_iff.1 hb;simp only[Option.getD_some,List.mem_cons,Qh,or_false] at h;rcases h with rfl | rfl
  ·exact (Cg hx).1
  ·exact List.mem_of_find?_eq_some hp
theorem WO{known:List Signed}{n:List UInt8}{t:Int}{s:Signed}(h:s∈sB known n t):s∈known:=by
 unfold sB at h
 cases hf:((ph n known []).mergeSort λa b=>decide (eD b<=eD a)).findSome? λz=>
  if nu z n t ((el known z).map (·.set))=(5,0)\/nu z n t ((el known z).map (·.set))=(6,0) then some (el known z) else none with
 | none=>rw[hf] at h;simp at h
 | some l=>
  rw[hf] at h;obtain⟨z,_,hz⟩:=List.exists_of_findSome?_eq_some hf;split at hz
  ·cases hz;exact (List.mem_filter.1 h).1
  ·cases hz
theorem Hz{known:List Signed}{t:Int} : ∀ (k:Nat) (n:List UInt8) {s:Signed},Found.set s∈f8 known t k n->s∈known
 | k,n,s,h=>by
   unfold f8 at h;split at h
   ·rename_i x hc;simp at h;subst h;exact (Cg hc).1
   ·split at h
    ·unfold pc at h;split at h
     ·simp at h;exact aNJ h
     ·split at h
      ·simp at h;exact WO h
      ·simp at h
    ·rename_i a ha;have ha':eu known n 3=some a:=by
      unfold n9 at ha;split at ha
      ·cases ha
      ·exact ha
     cases k with
     | zero=>simp at h
     | succ k=>
      simp only[List.mem_cons,Found.set.injEq] at h;rcases h with rfl | h
      ·exact (Cg ha').1
      ·exact Hz k _ h
theorem akK(known:List Signed)(t:Int):∀ (k:Nat) (n:List UInt8),f8 known t k n≠[]
 | k,n=>by
   unfold f8;split
   ·simp
   ·split
    ·unfold pc;split
     ·rename_i h;simpa using h
     ·split
      ·rename_i h;simpa using h
      ·simp
    ·cases k<;>simp
structure LinkOk(known:List Signed)(anchor:DSet)(t d:Int)(s:Signed):Prop where
 mem:s∈known
 under:aT s.set.name (aE s)=true
 path:(ja known anchor (aE s) t d).2.2=0
 sign:e8 s (aE s) (ja known anchor (aE s) t d).1 t d=true
theorem ajY{known:List Signed}{anchor:DSet}{t d:Int}{s:Signed}(hs:s∈known)(h:(fI known anchor t d s).1=1):LinkOk known anchor t d s:=by
 unfold fI at h;split at h
 ·simp at h
 ·rename_i hc;simp only[Bool.or_eq_true,Bool.not_eq_true',not_or,Bool.not_eq_false] at hc;generalize hp:ja known anchor (aE s) t d=W at h;obtain⟨ks,q,e⟩:=W;dsimp only at h;split at h
  ·rename_i he;split at h
   ·rename_i hk;exact⟨hs,hc.1,by rw[hp];exact he,by rw[hp];exact hk⟩
   ·simp at h
  ·split at h<;>simp at h
theorem Pv{known:List Signed}{anchor:DSet}{t d:Int} : ∀ (l:List Found) (good:List Signed),(∀ s,Found.set s∈l->s∈known)->(∀ s∈good,LinkOk known anchor t d s)->
 ((fj known anchor t d l good).1.kind≠1->(fj known anchor t d l good).1.sets = [])/\(∀ s∈(fj known anchor t d l good).1.sets,LinkOk known anchor t d s)/\((fj known anchor t d l good).1.kind=1->l≠[]\/good≠[]->(fj known anchor t d l good).1.sets≠[])
 | [],good,_,hg=>⟨λh=>absurd rfl h,hg,λ_ h=>by rcases h with h | h;exact absurd rfl h;exact h⟩
 | .loop::r,good,_,_=>by simp[fj]
 | .miss n u::r,good,_,_=>by simp[fj]
 | .set s::r,good,hk,hg=>by
   by_cases h1:(fI known anchor t d s).1=1
   ·have e:fj known anchor t d (.set s::r) good=fj known anchor t d r (good ++ [s]):=by rw[fj,QbQ h1]
    rw[e];have ih:=Pv (known:=known) (anchor:=anchor) (t:=t) (d:=d) r (good ++ [s]) (λx hx=>hk x (by simp[hx])) (λx hx=>by
     rcases List.mem_append.1 hx with hx | hx
     ·exact hg x hx
     ·rw[List.mem_singleton] at hx;subst hx;exact ajY (hk _ (by simp)) h1)
    exact⟨ih.1,ih.2.1,λh _=>ih.2.2 h (.inr (by simp))⟩
   ·have e:fj known anchor t d (.set s::r) good=(⟨(fI known anchor t d s).1,(fI known anchor t d s).2,[]⟩,0):=by rw[fj,Qc h1]
    rw[e];exact⟨λ_=>rfl,λx hx=>by simp at hx,λh=>absurd h h1⟩
theorem afK(known:List Signed)(anchor:DSet)(n:List UInt8)(ty t d:Int) :
 ((eY known anchor n ty t d).1.kind≠1->(eY known anchor n ty t d).1.sets = [])/\(∀ s∈(eY known anchor n ty t d).1.sets,LinkOk known anchor t d s)/\((eY known anchor n ty t d).1.kind=1->(eY known anchor n ty t d).1.sets≠[]):=by
 unfold eY;split
 ·simp
 ·split
  ·simp
  ·have h:=Pv (known:=known) (anchor:=anchor) (t:=t) (d:=d) (f8 known ty 8 n) [] (λs hs=>Hz 8 n hs) (λs hs=>by simp at hs);exact⟨h.1,h.2.1,λk=>h.2.2 k (.inl (akK known ty 8 n))⟩
end Np
end Go.Proofs.YtadhigmjilijcaaGreatDoor
