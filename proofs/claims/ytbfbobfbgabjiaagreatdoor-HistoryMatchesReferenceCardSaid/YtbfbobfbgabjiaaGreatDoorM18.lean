/- Parts of the proof. No condition. -/
import Derived.RangeFuncCalls
import Derived.OrdersIn
import Derived.TacticsIn
import Derived.Test.YtbfbobfbgabjiaaGreatDoorM17
set_option linter.all false
set_option maxRecDepth 100000
set_option maxHeartbeats 8000000
namespace Go.Proofs.YtbfbobfbgabjiaaGreatDoor
open Go.Proofs.Tryz
namespace Np
def Stop(y:List UInt8):Prop:=y = []\/∃ c r,y=c::r/\rM c=false
def Lx(x:List UInt8)(ts:List Tok)(free:Bool):Prop:=
 ∀ (y:List UInt8) (p k:Nat),(free=true\/Stop y)->k<=2000->
   (k+ts.length<=2000->∃ ts',ts'.map Eg=ts.map Eg/\oE (x++y) p k=(ts'++(oE y (p+x.length) (k+ts.length)).1,(oE y (p+x.length) (k+ts.length)).2))/\
   (2000<k+ts.length->(oE (x++y) p k).2.1=2)
theorem Lx.weaken{x:List UInt8}{ts:List Tok}{f:Bool}(h:Lx x ts f):Lx x ts false:=λy p k hy hk=>
 h y p k (.inr (by rcases hy with hy | hy; cases hy; exact hy)) hk
theorem XK:∀ (s:List UInt8) (c:UInt8),c∈s->c=46\/∃ x∈be s,c∈x:=by
 intro s
 induction s with
 | nil=>intro c h; cases h
 | cons a r ih=>
  intro c hc;rw[be];by_cases ha:a=46
  ·rw[Qb ha];rcases List.mem_cons.1 hc with e | e
   ·exact .inl (e.trans ha)
   ·rcases ih c e with h | ⟨x,hx,EN⟩
    ·exact .inl h
    ·exact .inr ⟨x,mQ _ hx,EN⟩
  ·rw[Qc ha];have hne:=qo r
   cases hr:be r with
   | nil=>exact absurd hr hne
   | cons y ys=>
    rw[hr] at ih;rcases List.mem_cons.1 hc with e | e
    ·exact .inr ⟨a::y,by simp,by simp[e]⟩
    ·rcases ih c e with h | ⟨x,hx,EN⟩
     ·exact .inl h
     ·rcases List.mem_cons.1 hx with rfl | hx
      ·exact .inr ⟨a::x,by simp,by simp[EN]⟩
      ·exact .inr ⟨x,by simp[hx],EN⟩
theorem T9{c:UInt8}(h:mG c=true):rM c=true:=by
 unfold mG at h;have hl:∀ c:UInt8,qC c=true\/nI c=true->cls c=3:=by
  intro c h;have hne:¬ (c=32\/c=9\/c=10)/\c≠35:=by
   constructor
   ·rintro (rfl | rfl | rfl) <;> revert h <;> decide
   ·rintro rfl; revert h; decide
  unfold cls;rw[Qc hne.1,Qc hne.2,Qb (by rcases h with h | h <;> simp[h])]
 simp only[Bool.or_eq_true,beq_iff_eq] at h;unfold rM;rcases h with h | h
 ·rw[hl c h]; rfl
 ·subst h; decide
theorem Zz{c:UInt8}(h:qC c=true\/nI c=true):cls c=3:=by
 have hne:¬ (c=32\/c=9\/c=10)/\c≠35:=by
  constructor
  ·rintro (rfl | rfl | rfl) <;> revert h <;> decide
  ·rintro rfl; revert h; decide
 unfold cls;rw[Qc hne.1,Qc hne.2,Qb (by rcases h with h | h <;> simp[h])]
theorem Vw{x:List UInt8}(h:cF x=true\/x = [42]):∀ c∈x,rM c=true:=by
 rcases h with h | rfl
 ·unfold cF at h;simp only[Bool.and_eq_true] at h;exact λc hc=>T9 (List.all_eq_true.1 h.2 c hc)
 ·intro c hc; simp at hc; subst hc; decide
theorem WE{x:List UInt8}(h:cF x=true\/x = [42]):∃ c r,x=c::r/\cls c=3:=by
 rcases h with h | rfl
 ·unfold cF at h;simp only[Bool.and_eq_true,Qa,Bool.not_eq_true',beq_eq_false_iff_ne] at h
  cases x with
  | nil=>simp at h
  | cons c r=>
   refine⟨c,r,rfl,Zz ?_⟩;have h1:=List.all_eq_true.1 h.2 c (by simp);have h2:=h.1.1.2;simp only[List.head?_cons,ne_eq,Option.some.injEq] at h2;simp only[mG,Bool.or_eq_true,beq_iff_eq] at h1;rcases h1 with h1 | h1
   ·exact h1
   ·exact absurd h1 h2
 ·exact⟨42,[],rfl,by decide⟩
theorem GD:∀ (s:List UInt8),∃ h t,be s=h::t/\(∀ c r,h=c::r->∃ r',s=c::r'):=by
 intro s
 cases s with
 | nil=>exact⟨[],[],rfl,λc r h=>by cases h⟩
 | cons a r=>
  rw[be];by_cases ha:a=46
  ·rw[Qb ha]; exact⟨[],_,rfl,λc r h=>by cases h⟩
  ·rw[Qc ha];have hne:=qo r
   cases hr:be r with
   | nil=>exact absurd hr hne
   | cons x xs=>exact⟨a::x,xs,rfl,λc r' h=>by cases h; exact⟨_,rfl⟩⟩
theorem yf{s:List UInt8}(h:aG s=true):s.length<=60/\(s = [46]\/∃ c r,s=c::r/\cls c=3/\s.all rM=true):=by
 unfold aG at h;split at h
 ·rename_i e; subst e; exact⟨by decide,.inl rfl⟩
 ·split at h
  ·cases h
  ·rename_i FQ;have hg:=MS _ _ _ h;have hl:∀ x∈be s,cF x=true\/x = [42]:=λx hx=>(hg x (List.mem_reverse.2 hx)).symm;obtain⟨a,t,e1,e2⟩:=GD s;obtain⟨c,r,rfl,hc⟩:=WE (hl a (by rw[e1]; simp));obtain⟨r',rfl⟩:=e2 c r rfl;refine⟨by omega,.inr ⟨c,r',rfl,hc,List.all_eq_true.2 λb hb=>?_⟩⟩;rcases XK _ b hb with rfl | ⟨x,hx,eF⟩
   ·decide
   ·exact Vw (hl x hx) b eF
theorem Pm{k:Nat}(h:k<10):nI (UInt8.ofNat (48+k))=true/\(UInt8.ofNat (48+k)).toNat=48+k:=by
 have:k=0\/k=1\/k=2\/k=3\/k=4\/k=5\/k=6\/k=7\/k=8\/k=9:=by omega
 rcases this with rfl | rfl | rfl | rfl | rfl | rfl | rfl | rfl | rfl | rfl <;> exact⟨by decide,by decide⟩
theorem Gq(n:Nat):(nB n).all nI=true/\nB n≠[]/\dec (nB n)=n/\(1<=n->(nB n).head?≠some 48)/\(n<10->(nB n).length=1):=by
 induction n using Nat.strongRecOn with
 | ind n ih=>
  rw[nB];split
  ·rename_i h;have hd:=Pm h;refine⟨by rw[List.all_cons,hd.1]; rfl,by simp,by show 10 * 0+((UInt8.ofNat (48+n)).toNat - 48)=n; rw[hd.2]; omega,λh1=>?_,λ_=>rfl⟩;simp only[List.head?_cons,ne_eq,Option.some.injEq];intro e
   have:=Qd UInt8.toNat e
   rw[hd.2] at this;simp at this; omega
  ·rename_i h;obtain⟨i1,i2,i3,i4,_⟩:=ih (n / 10) (by omega);have hd:=Pm (k:=n % 10) (by omega);refine⟨by rw[List.all_append,i1,List.all_cons,hd.1]; rfl,by simp,?_,λ_=>?_,λh2=>absurd h2 h⟩
   ·rw[Za,i3,hd.2]; omega
   ·rw[YX i2]; exact i4 (by omega)
def cW(n:Int):List UInt8:=nB n.toNat
def tK(d:Datum):List (List UInt8):=[d.text,cW d.n,cW d.m]
def rO(g:Sig):List (List UInt8):=[g.zone,cW g.key,cW g.alg,cW g.frm,cW g.til,cW g.sum]
def AC(s:Signed):List (List UInt8):=[s.set.name,cW s.set.type,cW s.set.life,cW s.set.data.length]++(s.set.data.flatMap tK++s.sigs.flatMap rO)
def gX(l:List (List UInt8)):List UInt8:=l.flatMap λf=>f ++ [47]
def jK(s:Signed):List UInt8:=gX (AC s)
theorem MB:∀ (x y r q:List UInt8),47∉x->47∉y->x++47::r=y++47::q->x=y/\r=q
 | [],[],r,q,_,_,h=>⟨rfl,by simpa using h⟩
 | [],b::y,r,q,_,hy,h=>by
   simp only[List.nil_append,List.cons_append,List.cons.injEq] at h;exact absurd (h.1 ▸ List.mem_cons_self) hy
 | a::x,[],r,q,hx,_,h=>by
   simp only[List.nil_append,List.cons_append,List.cons.injEq] at h;exact absurd (h.1 ▸ List.mem_cons_self) hx
 | a::x,b::y,r,q,hx,hy,h=>by
   simp only[List.cons_append,List.cons.injEq] at h;obtain⟨h1,h2⟩:=MB x y r q (λhm=>hx (mQ _ hm)) (λhm=>hy (mQ _ hm)) h.2;exact⟨by rw[h.1,h1],h2⟩
theorem Aj(f:List UInt8)(l:List (List UInt8)):gX (f::l)=f++47::gX l:=by simp[gX]
theorem OS:∀ (a b:List (List UInt8)),(∀ x∈a,47∉x)->(∀ x∈b,47∉x)->gX a=gX b->a=b
 | [],[],_,_,_=>rfl
 | [],f::b,_,_,h=>by rw[Aj] at h; simp[gX] at h
 | f::a,[],_,_,h=>by rw[Aj] at h; simp[gX] at h
 | f::a,g::b,ha,hb,h=>by
   rw[Aj,Aj] at h;obtain⟨h1,h2⟩:=MB f g _ _ (ha f (by simp)) (hb g (by simp)) h;rw[h1,OS a b (λx hx=>ha x (mQ _ hx)) (λx hx=>hb x (mQ _ hx)) h2]
theorem qx{a b:Int}(ha:0<=a)(hb:0<=b)(h:cW a=cW b):a=b:=by
 have h1:=(Gq a.toNat).2.2.1;have h2:=(Gq b.toNat).2.2.1;unfold cW at h;rw[h] at h1;omega
theorem qr(a:Int):47∉cW a:=λhm=>by
 have h1:=(Gq a.toNat).1
 have:=List.all_eq_true.1 h1 47 hm
 revert this; decide
structure Plain47(s:Signed):Prop where
 name:47∉s.set.name
 type:0<=s.set.type
 life:0<=s.set.life
 data:∀ d∈s.set.data,47∉d.text/\0<=d.n/\0<=d.m
 sigs:∀ g∈s.sigs,47∉g.zone/\0<=g.key/\0<=g.alg/\0<=g.frm/\0<=g.til/\0<=g.sum
theorem Plain47.fields{s:Signed}(h:Plain47 s):∀ x∈AC s,47∉x:=λx hx=>by
 unfold AC at hx;rcases List.mem_append.1 hx with hx | hx
 ·simp only[List.mem_cons,Qh,or_false] at hx;rcases hx with rfl | rfl | rfl | rfl
  ·exact h.name
  ·exact qr _
  ·exact qr _
  ·exact qr _
 ·rcases List.mem_append.1 hx with hx | hx
  ·obtain⟨d,hd,hx⟩:=List.mem_flatMap.1 hx;simp only[tK,List.mem_cons,Qh,or_false] at hx;rcases hx with rfl | rfl | rfl
   ·exact (h.data d hd).1
   ·exact qr _
   ·exact qr _
  ·obtain⟨g,hg,hx⟩:=List.mem_flatMap.1 hx;simp only[rO,List.mem_cons,Qh,or_false] at hx;rcases hx with rfl | rfl | rfl | rfl | rfl | rfl
   ·exact (h.sigs g hg).1
   ·exact qr _
   ·exact qr _
   ·exact qr _
   ·exact qr _
   ·exact qr _
theorem OT:∀ (a b:List Datum) (r q:List (List UInt8)),a.length=b.length->(∀ d∈a,0<=d.n/\0<=d.m)->(∀ d∈b,0<=d.n/\0<=d.m)->a.flatMap tK++r=b.flatMap tK++q->a=b/\r=q
 | [],[],r,q,_,_,_,h=>⟨rfl,by simpa using h⟩
 | [],_::_,_,_,hl,_,_,_=>by simp at hl
 | _::_,[],_,_,hl,_,_,_=>by simp at hl
 | x::a,y::b,r,q,hl,ha,hb,h=>by
   simp only[List.flatMap_cons,tK,List.cons_append,List.nil_append,List.cons.injEq] at h;obtain⟨h1,h2,h3,h4⟩:=h;obtain⟨h5,h6⟩:=OT a b r q (by simpa using hl) (λd hd=>ha d (mQ _ hd)) (λd hd=>hb d (mQ _ hd)) h4;have hx:=ha x (by simp);have hy:=hb y (by simp);have e:x=y:=by
    obtain⟨_,_,_⟩:=x;obtain⟨_,_,_⟩:=y;simp only at h1 h2 h3 hx hy;rw[h1,qx hx.1 hy.1 h2,qx hx.2 hy.2 h3]
   exact⟨by rw[e,h5],h6⟩
theorem Ov:∀ (a b:List Sig),(∀ g∈a,0<=g.key/\0<=g.alg/\0<=g.frm/\0<=g.til/\0<=g.sum)->(∀ g∈b,0<=g.key/\0<=g.alg/\0<=g.frm/\0<=g.til/\0<=g.sum)->a.flatMap rO=b.flatMap rO->a=b
 | [],[],_,_,_=>rfl
 | [],_::_,_,_,h=>by simp[rO] at h
 | _::_,[],_,_,h=>by simp[rO] at h
 | x::a,y::b,ha,hb,h=>by
   simp only[List.flatMap_cons,rO,List.cons_append,List.nil_append,List.cons.injEq] at h;obtain⟨h1,h2,h3,h4,h5,h6,h7⟩:=h;have hx:=ha x (by simp);have hy:=hb y (by simp);have e:x=y:=by
    obtain⟨_,_,_,_,_,_⟩:=x;obtain⟨_,_,_,_,_,_⟩:=y;simp only at h1 h2 h3 h4 h5 h6 hx hy;rw[h1,qx hx.1 hy.1 h2,qx hx.2.1 hy.2.1 h3,qx hx.2.2.1 hy.2.2.1 h4,qx hx.2.2.2.1 hy.2.2.2.1 h5,qx hx.2.2.2.2 hy.2.2.2.2 h6]
   rw[e,Ov a b (λg hg=>ha g (mQ _ hg)) (λg hg=>hb g (mQ _ hg)) h7]
theorem Oa{s t:Signed}(hs:Plain47 s)(ht:Plain47 t)(h:jK s=jK t):s=t:=by
 have h:=OS _ _ hs.fields ht.fields h;unfold AC at h;simp only[List.cons_append,List.nil_append,List.cons.injEq] at h;obtain⟨h1,h2,h3,h4,h5⟩:=h;have e4:=qx (by omega) (by omega) h4;obtain⟨h6,h7⟩:=OT _ _ _ _ (by omega) (λd hd=>(hs.data d hd).2) (λd hd=>(ht.data d hd).2) h5;have h8:=Ov _ _ (λg hg=>(hs.sigs g hg).2) (λg hg=>(ht.sigs g hg).2) h7;have e2:=qx hs.type ht.type h2;have e3:=qx hs.life ht.life h3;obtain⟨⟨_,_,_,_⟩,_⟩:=s;obtain⟨⟨_,_,_,_⟩,_⟩:=t;simp only at h1 e2 e3 h6 h8;rw[h1,e2,e3,h6,h8]
def yC(s:Signed):Prop:=∀ g∈s.sigs,0<=g.sum/\g.sum<18446744073709551616
def lA(h:Hist):Prop:=∀ c∈h.copies,∀ s∈c.zone.sets,yC s
theorem Xr{c:UInt8}(h:rM c=true):c≠47:=by rintro rfl; revert h; decide
theorem Du{l:List UInt8}(h:aG l=true):47∉l:=λhm=>by
 obtain⟨_,rfl | ⟨c,r,rfl,_,hr⟩⟩:=yf h
 ·revert hm; decide
 ·exact Xr (List.all_eq_true.1 hr 47 hm) rfl
theorem WO{l:List UInt8}(h:ke l=true):47∉l:=λhm=>by
 unfold ke at h;simp only[Bool.and_eq_true] at h
 have:=List.all_eq_true.1 h.2 47 hm
 revert this; decide
theorem VZ{k:Int}{l:List UInt8}(h:vf k l=true):47∉l:=by
 unfold vf at h;split at h
 ·simp only[Bool.and_eq_true] at h; exact Du h.1
 ·split at h
  ·exact Du h
  ·split at h
   ·exact WO h
   ·have:l = []:=by simpa using h
    rw[this]; simp
theorem Nl(k:Int):0<=(cm k).leastN/\0<=(cm k).leastM:=by
 unfold cm;generalize k.toNat=n;by_cases h:n<9
 ·have:∀ m,m<9->0<=(rules.getD m ⟨0,0,0,0,0,false,false,false⟩).leastN/\0<=(rules.getD m ⟨0,0,0,0,0,false,false,false⟩).leastM:=by decide
  exact this n h
 ·have e:rules[n]?=none:=List.getElem?_eq_none (by simp[rules]; omega);rw[List.getD_eq_getElem?_getD,e];decide
theorem VI{k:Int}{d:Datum}(h:jX (cm k) d=true):47∉d.text/\0<=d.n/\0<=d.m:=by
 unfold jX at h;simp only[Bool.and_eq_true,Qa] at h;obtain⟨⟨⟨⟨h1,_⟩,h2,_⟩,_⟩,h3⟩:=h
 have:=Nl k
 exact⟨VZ h3,by omega,by omega⟩
theorem GR{z:Zone}(v:VZone z):aG z.apex=true/\∀ x∈z.sets,ee x.set=true:=by
 have h:=v.right;unfold fm at h;simp only[Bool.and_eq_true] at h;exact⟨h.1.1,C9 h.2⟩
theorem M7{z:Zone}(v:VZone z){x:Signed}(hx:x∈z.sets)(hs:yC x):Plain47 x:=by
 obtain⟨ha,hv⟩:=GR v;obtain⟨h1,h2,h3,h4,h5,h6,h7,h8⟩:=xY (hv x hx);refine⟨Du h1,by omega,h4,λd hd=>VI (Gp h8 d hd),λg hg=>?_⟩;obtain⟨i,hi⟩:=List.mem_iff_getElem?.1 hg
 have:=(v.form x hx).2 i g hi
 exact⟨by rw[this.zone]; exact Du ha,by have:=this.key; omega,by have:=this.alg; omega,this.win.1,by have:=this.win; omega,(hs g hg).1⟩
def nE(us:List Signed):List (List UInt8×Value):=us.zipIdx.map λp=>(jK p.1,.int .i64 ((p.2:Nat):Int))
theorem Vy(us:List Signed)(s:Signed):nE (us ++ [s])=nE us ++ [(jK s,.int .i64 ((us.length:Nat):Int))]:=by
 unfold nE;rw[List.zipIdx_append,List.map_append];simp
theorem N9:∀ (us:List Signed) (n:Nat) (s:Signed),Plain47 s->(∀ x∈us,Plain47 x)->s∉us->((us.zipIdx n).map λp=>(jK p.1,Value.int .i64 ((p.2:Nat):Int))).lookup (jK s)=none
 | [],_,_,_,_,_=>rfl
 | x::us,n,s,hs,hu,hn=>by
   rw[List.zipIdx_cons,List.map_cons,List.lookup_cons];have hne:(jK s == jK x)=false:=by
    rw[beq_eq_false_iff_ne];intro e;exact hn (by rw[Oa hs (hu x (by simp)) e]; simp)
   rw[hne];exact N9 us (n+1) s hs (λy hy=>hu y (mQ _ hy)) (λh=>hn (mQ _ h))
theorem Vz{us:List Signed}{s:Signed}(hs:Plain47 s)(hu:∀ x∈us,Plain47 x)(hn:s∉us):(nE us).lookup (jK s)=none:=N9 us 0 s hs hu hn
theorem N8:∀ (us:List Signed) (n:Nat) (s:Signed) (i:Nat),Plain47 s->(∀ x∈us,Plain47 x)->us.Nodup->us[i]?=some s->((us.zipIdx n).map λp=>(jK p.1,Value.int .i64 ((p.2:Nat):Int))).lookup (jK s)=some (.int .i64 ((n+i:Nat):Int))
 | [],_,_,_,_,_,_,h=>by simp at h
 | x::us,n,s,i,hs,hu,hd,h=>by
   rw[List.zipIdx_cons,List.map_cons,List.lookup_cons]
   cases i with
   | zero=>
    have e:x=s:=by simpa using h
    subst e;simp
   | succ i=>
    have h':us[i]?=some s:=by simpa using h
    have hne:(jK s == jK x)=false:=by
     rw[beq_eq_false_iff_ne];intro e
     have:=Oa hs (hu x (by simp)) e
     subst this;exact (List.nodup_cons.1 hd).1 (gQ h')
    rw[hne]
    have:=N8 us (n+1) s i hs (λy hy=>hu y (mQ _ hy)) (List.nodup_cons.1 hd).2 h'
    rw[show n+(i+1)=n+1+i by omega];exact this
theorem Vx{us:List Signed}{s:Signed}{i:Nat}(hs:Plain47 s)(hu:∀ x∈us,Plain47 x)(hd:us.Nodup)(h:us[i]?=some s):(nE us).lookup (jK s)=some (.int .i64 ((i:Nat):Int)):=by
 have:=N8 us 0 s i hs hu hd h
 rwa [Nat.zero_add] at this
def eX(ps:List (Span×Signed)):List (Signed×List Span):=(cH (ps.map (·.2))).map λs=>(s,ep ps s)
theorem XJ(ps:List (Span×Signed)):(eX ps).map (·.1)=cH (ps.map (·.2)):=by
 unfold eX;rw[List.map_map];exact List.map_id'' (λ_=>rfl) _
theorem WA(f:List Span->List Span)(zone:List UInt8)(ps:List (Span×Signed)):mJ f zone ps=(eX ps).map λx=>⟨zone,x.1,f x.2,[]⟩:=by
 unfold mJ eX;rw[List.map_map];rfl
theorem XH{ps:List (Span×Signed)}{p:Span×Signed}(h:p.2∉cH (ps.map (·.2))):eX (ps ++ [p])=eX ps ++ [(p.2,[p.1])]:=by
 have hn:p.2∉ps.map (·.2):=λhm=>h (vu.2 hm);unfold eX;rw[List.map_append,List.map_singleton,Ab,kT,Qc h,List.map_append];congr 1
 ·refine List.map_congr_left λs hs=>?_;rw[tp,Qc (show ¬ p.2=s from λe=>h (by rw[e]; exact hs))]
 ·simp[tp,Md hn]
theorem XG{ps:List (Span×Signed)}{p:Span×Signed}{i:Nat}(h:(cH (ps.map (·.2)))[i]?=some p.2):eX (ps ++ [p])=(eX ps).set i (p.2,ep ps p.2 ++ [p.1]):=by
 obtain⟨hi,he⟩:=cQ.1 h;have hm:p.2∈cH (ps.map (·.2)):=by rw[<-he]; exact List.getElem_mem _
 have nW:=x9 (ps.map (·.2));have hu:cH ((ps ++ [p]).map (·.2))=cH (ps.map (·.2)):=by rw[List.map_append,List.map_singleton,Ab,Hu hm]
 refine List.ext_getElem? λj=>?_;rw[List.getElem?_set];unfold eX;rw[hu,List.getElem?_map,List.getElem?_map,List.length_map];by_cases dL:i=j
 ·subst dL;rw[Qb rfl,Qb hi,h,Option.map_some,tp,Qb rfl]
 ·rw[Qc dL]
  cases hj:(cH (ps.map (·.2)))[j]? with
  | none=>rfl
  | some s=>
   obtain⟨qJ,rn⟩:=cQ.1 hj;have hne:p.2≠s:=λe=>dL ((List.getElem_inj (h₀:=hi) (h₁:=qJ) nW).1 (he.trans (e.trans rn.symm)));rw[Option.map_some,Option.map_some,tp,Qc hne]
theorem XI(ps:List (Span×Signed)):(eX ps).length=(cH (ps.map (·.2))).length:=List.length_map _
end Np
section
open Go.RowKit
structure Np.Use(h:Np.Hist):Prop where
 copies:h.copies.length<=21
 hosts:h.hosts.length<=70
 hints:h.hints.length<=20
 data:h.anchor.data.length<=20
 each:∀ c∈h.copies,Np.pJ c.zone.sets
theorem Np.nD.use{h:Np.Hist}(k:Np.nD h):Np.Use h:=
 ⟨by have:=k.1.1; omega,k.1.2.1,k.1.2.2.1,k.1.2.2.2,λc hc=>(k.2.1 c hc).1⟩
theorem Np.Use.withC{h:Np.Hist}(k:Np.Use h){l:List Np.Copy}(hl:l.length<=21)(hz:∀ d∈l,∃ c∈h.copies,d.zone=c.zone):Np.Use (Np.withC h l):=
 ⟨hl,k.hosts,k.hints,k.data,λd hd=>by
  obtain⟨c,hc,e⟩:=hz d hd;rw[e];exact k.each c hc⟩
theorem Np.lA.withC{h:Np.Hist}(k:Np.lA h){l:List Np.Copy}(hz:∀ d∈l,∃ c∈h.copies,d.zone=c.zone):Np.lA (Np.withC h l):=λd hd s hs=>by
 obtain⟨c,hc,e⟩:=hz d hd;rw[e] at hs;exact k c hc s hs
theorem Np.Use.fewH{h:Np.Hist}(k:Np.Use h):Np.oR h:=
 ⟨by have:=k.copies; omega,λc hc=>by have:=(k.each c hc).1; omega⟩
theorem Np.Use.big{h:Np.Hist}(k:Np.Use h):h.hosts.length<=100000/\h.hints.length<=100000/\h.anchor.data.length<=100000:=by
 have h1:=k.hosts;have h2:=k.hints;have h3:=k.data;omega
theorem Np.Use.sets{h:Np.Hist}(k:Np.Use h):∀ c∈h.copies,∀ x∈c.zone.sets,x.set.data.length<=100000/\x.sigs.length<=100000:=λc hc x hx=>by
 have:=(k.each c hc).2 x hx
 omega
theorem Np.YJ{l:List Np.Copy}{n:Nat}(h:∀ c∈l,c.zone.sets.length<=n)(zone:List UInt8):(Np.dJ l zone).length<=l.length * n:=by
 induction l with
 | nil=>simp[Np.dJ,Np.rI]
 | cons c l ih=>
  have h1:=ih (λd hd=>h d (mQ _ hd));have h2:=h c (by simp);have e:=Np.G5 [c] l zone;rw[List.singleton_append] at e;rw[e,List.length_append,List.length_cons,Nat.add_mul,Nat.one_mul];have h3:(Np.dJ [c] zone).length<=n:=by
   unfold Np.dJ Np.rI;rw[List.filter_cons,List.filter_nil];split
   ·simp[Np.oI]; exact h2
   ·simp
  omega
theorem Np.Use.pairs{h:Np.Hist}(k:Np.Use h)(zone:List UInt8):(Np.dJ h.copies zone).length<=5000:=by
 have h1:=Np.YJ (λc hc=>(k.each c hc).1) zone;have h2:=Nat.mul_le_mul_right 100 k.copies;omega
theorem Np.Use.cut{h:Np.Hist}(k:Np.nD h)(j:Nat)(a:Int):Np.Use (Np.withC h (Np.vJ h.copies j a)):=
 k.use.withC (by have h1:=Np.ZO h.copies j a; have h2:=k.1.1; omega) (λd hd=>by
  obtain⟨c,hc,_,h2,_⟩:=Np.Pa hd;exact⟨c,hc,h2⟩)
theorem Np.lA.cut{h:Np.Hist}(k:Np.lA h)(j:Nat)(a:Int):Np.lA (Np.withC h (Np.vJ h.copies j a)):=
 k.withC (λd hd=>by
  obtain⟨c,hc,_,h2,_⟩:=Np.Pa hd;exact⟨c,hc,h2⟩)
theorem Np.Use.short{h:Np.Hist}(k:Np.nD h)(u:Int):Np.Use (Np.withC h (Np.dG h.copies u)):=
 k.use.withC (by have h1:=Np.NP h.copies u; have h2:=k.1.1; omega) (λd hd=>by
  obtain⟨c,hc,rfl,_⟩:=Np.vm.1 hd;exact⟨c,hc,rfl⟩)
theorem Np.lA.short{h:Np.Hist}(k:Np.lA h)(u:Int):Np.lA (Np.withC h (Np.dG h.copies u)):=
 k.withC (λd hd=>by
  obtain⟨c,hc,rfl,_⟩:=Np.vm.1 hd;exact⟨c,hc,rfl⟩)
end
section
section
variable {P:Program} {ops:Array Oper} {Q:Exit->Act->World->Prop} {n l:Nat}
theorem UB{row:String}{args:Array Value}{w:World}{R:Value->World->Prop}(h:Rows P row args w R):RowsIn (Fence.wide.inRound l) n P row args w R:=by
 intro c cs _;obtain⟨v,w',r,s⟩:=h c cs;exact⟨v,w',r,stepsIn_wide.2 s⟩
theorem M9{o:Oper}{a:Act}{K:Act->World->Prop}{w:World}(hd:∀ c,o.op≠.defer c)(sC:¬ LetsOut Q)(h:o.wp P a w K Q\/(o.asks P a w/\LetsOut Q)):o.wpIn (Fence.wide.inRound l) n P a w K Q:=by
 have h:=h.resolve_right (λe=>sC e.2);refine⟨λf _=>trivial,?_⟩;rw[Oper.semAt_eq _ _ _ hd];unfold Oper.wp at h;generalize (execOp a.eval o).run P w=r at *
 cases r with
 | ok x w'=>
  cases x <;> simp only[Oper.upon,Oper.uponIn] at h |- <;> first | exact h | exact h.elim | skip
  ·exact⟨λe=>by simp[Fence.wide] at e,CallsIn.inRound l (callsIn_wide.2 h)⟩
  ·exact⟨λe=>by simp[Fence.wide] at e,UB h⟩
 | halt x w'=>cases x <;> simp only[Oper.upon,Oper.uponIn] at h |- <;> first | exact h | exact h.elim
theorem U4{lst:List Oper}(hd:∀ o∈lst,∀ c,o.op≠.defer c)(sC:¬ LetsOut Q):∀ {a:Act} {w:World},wpList P ops Q lst a w->wpListIn (Fence.wide.inRound l) n P ops Q lst a w:=by
 induction lst with
 | nil=>exact λh=>h
 | cons o rest ih=>
  intro a w h;have ih':∀ {a:Act} {w:World},wpList P ops Q rest a w->wpListIn (Fence.wide.inRound l) n P ops Q rest a w:=ih (λo ho=>hd o (mQ _ ho));unfold wpList at h;unfold wpListIn;split at h
  ·rename_i hw;rw[Qb hw];refine Oper.wpIn_mono (λa w h=>ih' h) (M9 (hd o (by simp)) sC h)
  ·rename_i hw;rw[Qc hw];exact⟨λ_ _=>trivial,ih' h⟩
theorem VU{md:Region.Mode}(hd:∀ (i:Nat) (o:Oper),ops[i]?=some o->∀ c,o.op≠.defer c)(sC:¬ LetsOut Q):∀ (f:Nat) {listed:Array Bool} {a:Act} {w:World},wpAny P md ops Q f listed a w->wpAnyIn (Fence.wide.inRound l) n P md ops Q f listed a w:=by
 intro f
 induction f with
 | zero=>exact λh=>h
 | succ f ih=>
  intro listed a w h;refine⟨h.1,λi hi=>?_⟩;have h2:=h.2 i hi;unfold wpOp at h2;unfold wpOpIn
  cases ho:ops[i]? with
  | none=>rw[ho] at h2; exact ih h2
  | some o=>
   rw[ho] at h2;dsimp only at h2 |-;split at h2
   ·rename_i hw;rw[Qb hw];refine Oper.wpIn_mono (λa w h=>ih h) (M9 (hd i o ho) sC h2)
   ·rename_i hw;rw[Qc hw];exact⟨λ_ _=>trivial,ih h2⟩
end
def H0(ops:Array Oper):Bool:=ops.all λo=>match o.op with | .defer _=>false | _=>true
theorem Wy{ops:Array Oper}(h:H0 ops=true):∀ (i:Nat) (o:Oper),ops[i]?=some o->∀ c,o.op≠.defer c:=λi o ho c e=>by
 unfold H0 at h;rw[Array.all_eq_true] at h;obtain⟨hi,hg⟩:=eQ.1 ho
 have:=h i hi
 rw[hg,e] at this
 cases this
section
variable {P:Program} {ops:Array Oper} {Q:Exit->Act->World->Prop} {n l id:Nat} {a:Act} {w:World}
theorem C4(hd:H0 ops=true)(hm:P.follows .mixedOrders=true)(sC:¬ LetsOut Q)(h:wpAny P .any ops Q ops.size (Array.replicate ops.size false) a w.drew):(Code.region id ops true).wpIn (Fence.wide.inRound l) n P Q a w:=
 wpIn_region_any hm (VU (Wy hd) sC _ h)
end
theorem yh{F:Fence}{n:Nat}{P:Program}{c:Code}{Q:Exit->Act->World->Prop}{a:Act}{w:World}(h:∀ a0,a0=a->c.wpIn F n P Q a0 w):c.wpIn F n P Q a w:=h a rfl
section
variable {P:Program} {ops:Array Oper} {Q:Exit->Act->World->Prop} {n l:Nat}
theorem Z0{F:Fence}{o:Oper}{a:Act}{K K':Act->World->Prop}{w:World}(h:o.wpIn F n P a w K (Exit.then K' Q)):o.wpIn F n P a w K Q:=by
 refine⟨h.1,?_⟩;have h:=h.2;generalize (o.semAt F.round a.eval).run P w=r at *
 cases r with
 | ok x w'=>
  cases x <;> simp only[Oper.uponIn] at h |- <;> first | exact h | (refine⟨h.1,h.2.mono λe w'' he=>?_⟩; cases e <;> exact he)
 | halt x w'=>cases x <;> simp only[Oper.uponIn] at h |- <;> first | exact h | exact h.elim
theorem LY{o:Oper}{rest:List Oper}{a:Act}{w:World}(hg:o.guard=none)(hd:∀ c,o.op≠.defer c)(sC:¬ LetsOut Q)
 (h:wpList P ops (Exit.then (wpListIn (Fence.wide.inRound l) n P ops Q rest) Q) [o] a w):wpListIn (Fence.wide.inRound l) n P ops Q (o::rest) a w:=by
 have hw:Region.wanted o (yielded ops a.tmps)=true:=by simp[Region.wanted,hg]
 have h1:=U4 (Q:=Exit.then (wpListIn (Fence.wide.inRound l) n P ops Q rest) Q) (l:=l) (n:=n) (lst:=[o]) (λx hx=>by rw[List.mem_singleton] at hx; subst hx; exact hd) (λe=>sC e) h;unfold wpListIn at h1 |-;rw[Qb hw] at h1 |-;exact Z0 h1
theorem M8{K:Act->World->Prop}{a:Act}{w:World}(h:K a w):wpList P ops (Exit.then K Q) [] a w:=h
end
end
section
open Go.RowKit
def gt(D:Nat->Prop)(w W:World):Prop:=w.heap.size<=W.heap.size/\∀ k,D k->k<w.heap.size/\W.heap[k]?=w.heap[k]?
theorem gt.refl{D:Nat->Prop}{w:World}(h:∀ k,D k->k<w.heap.size):gt D w w:=⟨bQ _,λk e=>⟨h k e,rfl⟩⟩
theorem gt.trans{D:Nat->Prop}{a b c:World}(h:gt D a b)(k:gt D b c):gt D a c:=⟨yQ h.1 k.1,λi e=>⟨(h.2 i e).1,((k.2 i e).2).trans (h.2 i e).2⟩⟩
theorem gt.of_below{D:Nat->Prop}{a b c:World}(h:gt D a b)(k:Below b.heap.size b c):gt D a c:=⟨yQ h.1 k.size,λi e=>⟨(h.2 i e).1,(k.block i (lQ (h.2 i e).1 h.1)).trans (h.2 i e).2⟩⟩
theorem gt.cell{D:Nat->Prop}{w W:World}(h:gt D w W){p:Addr}(hp:D p.block):W.cell? p=w.cell? p:=iQ (h.2 _ hp).2
theorem gt.round{D S:Nat->Prop}{a b c:World}(h:gt D a b)(k:RdStep S b c)(hS:∀ i,S i->¬ D i):gt D a c:=⟨yQ h.1 k.size,λi e=>⟨(h.2 i e).1,(k.keep i (lQ (h.2 i e).1 h.1) (λhs=>hS i hs e)).trans (h.2 i e).2⟩⟩
def Is{α:Type}(P:Program)(gf:FuncId)(mk:Value->Array Value)(encs:α->Array Value)(xs:List α)(Dr:Nat->Prop)(w:World):Prop:=
 ∀ (l:Nat) (J Jx:List α->(Nat->Prop)->World->Prop) (S:Nat->Prop) (W:World),gt Dr w W->
   gh W.heap.size J->gh W.heap.size Jx->
   (∀ pre x S1 W1,pre ++ [x] <+: xs->J pre S1 W1->(∀ k,S1 k->k<W1.heap.size)->W.heap.size<=W1.heap.size->
     YieldAt Fence.wide 0 P l (encs x) W1 (D5 J Jx pre x S1 W1))->
   (∀ k,S k->¬ Dr k)->(∀ k,S k->k<W.heap.size)->J [] S W->
   CallsIn Fence.wide 0 P gf (mk (.func (.yield l) #[] #[])) W λe W'=>(∃ v,e = .returned v)/\
    ((∃ S',J xs S' W'/\(∀ k,S' k->S k\/W.heap.size<=k))\/(∃ pre S',pre <+: xs/\Jx pre S' W'/\(∀ k,S' k->S k\/W.heap.size<=k)))
theorem U5{α:Type}{P:Program}{g:Operand}{ps:Array Tmp}{assign body:Code}{Q:Exit->Act->World->Prop}{a:Act}{w:World}
 {gf:FuncId} {first captured:Array Value} (hg:a.eval g = .func (.func gf) first captured) (eg:∀ args w,(callFunc gf args).run P w = .ok (.enter gf args) w)
 {mk:Value->Array Value} {encs:α->Array Value} {xs:List α} {Dr:Nat->Prop} {w0:World} (gL:∀ y,mk y=first ++ #[y]++captured)
 (hit:Is P gf mk encs xs Dr w0) (da:gt Dr w0 w) (ew:∀ x,(encs x).size=ps.size)
 (I:List α->(Nat->Prop)->World->Prop) (Ix:Code->List α->(Nat->Prop)->World->Prop) (A:List α->α->(Nat->Prop)->Act->World->Prop)
 (hI:gh w.heap.size I) (jB:∀ c,gh w.heap.size (Ix c)) (hA:∀ pre x S a' W W',A pre x S a' W->ItStep w.heap.size S W W'->A pre x S a' W')
 (S0:Nat->Prop) (qi:∀ k,S0 k->¬ Dr k) (ls:∀ k,S0 k->k<w.heap.size) (h0:I [] S0 w)
 (CR:∀ (l:Nat) (pre:List α) (x:α) (S:Nat->Prop) (W:World),pre ++ [x] <+: xs->I pre S W->(∀ k,S k->k<W.heap.size)->
   assign.wpIn (Fence.wide.inRound l) 0 P (Exit.then (λa₁ W₁=>∃ S',RdStep S W W₁/\(∀ k,S' k->S k\/W.heap.size<=k)/\(∀ k,S' k->k<W₁.heap.size)/\A pre x S' a₁ W₁) (λ_ _ _=>False))
    { tmps:=(ps.zip (encs x)).foldl (λt (p,v)=>t.setIfInBounds p v) a.tmps,defers:=[] } W)
 (BA:∀ (l:Nat) (pre:List α) (x:α) (S:Nat->Prop) (a₁:Act) (W:World),pre ++ [x] <+: xs->A pre x S a₁ W->(∀ k,S k->k<W.heap.size)->
   body.wpIn (Fence.wide.inRound l) 0 P (nF I Ix (pre ++ [x]) S W) a₁ W)
 (nT:∀ (D:Nat) (S:Nat->Prop) (W:World),w.heap.size<=D->¬ S D->(∀ k,S k->S0 k\/w.heap.size<=k)->I xs S W->W.heap[D]?=some (.deferred (some []))->
   Q .normal { a with defers:={ target:=.collected D,args:=#[] } :: a.defers } W)
 (gj:∀ (D:Nat) (c:Code) (pre:List α) (S:Nat->Prop) (W:World),w.heap.size<=D->¬ S D->(∀ k,S k->S0 k\/w.heap.size<=k)->pre <+: xs->Ix c pre S W->W.heap[D]?=some (.deferred (some []))->
   c.wpIn Fence.wide 0 P Q { a with defers:={ target:=.collected D,args:=#[] } :: a.defers } W) :
 (Code.rangeFunc g ps assign body).wpIn Fence.wide 0 P Q a w:=by
 refine wpIn_rangeFunc ?_;intro fn gK;show ∃ (l:Nat) (mark:List Deferred) (w₁:World) (d:Deferred) (w₁':World) (f:FuncId) (args:Array Value) (w₂:World),(Instr.enterLoop fn a.tmps ps assign body none).run P w = .ok (l,mark) w₁/\_;obtain⟨rec,fK⟩:∃ rec:LoopState->Option Code->Loop,rec=λst pe=>{ state:=st,pending:=pe,fn,tmps:=a.tmps,params:=ps,assign,body,defers:=w.heap.size }:=⟨_,rfl⟩;obtain⟨W1,ae⟩:∃ W1,(w.alloc (.deferred (some []))).alloc (.loop (rec .ready none))=W1:=⟨_,rfl⟩;have an:W1.heap.size=w.heap.size+2:=by rw[<-ae]; simp
 have iH:W1.heap[w.heap.size+1]?=some (.loop (rec .ready none)):=by
  rw[<-ae]; have:=World.alloc_heap_new (w.alloc (.deferred (some []))) (.loop (rec .ready none)); rwa [World.size_alloc] at this
 have CL:W1.heap[w.heap.size]?=some (.deferred (some [])):=by
  rw[<-ae]; exact (Below.heap_alloc _ _ _ (by simp)).trans (World.alloc_heap_new w _)
 have mp:I [] S0 W1:=by rw[<-ae]; exact hI _ _ _ _ (hI _ _ _ _ h0 (tD _)) (tD _)
 have aq:gt Dr w0 W1:=by
  rw[<-ae]; exact da.of_below (((vQ _ w).alloc (bQ _) _).alloc (by simp) _)
 refine⟨w.heap.size+1,[{ target:=.collected w.heap.size,args:=#[] }],W1,{ target:=.fn (.func gf) captured,args:=first ++ #[.func (.yield (w.heap.size+1)) #[] #[]] },W1,gf,
  first ++ #[.func (.yield (w.heap.size+1)) #[] #[]]++captured,W1,?_,?_,?_,?_,λh=>by simp[Fence.wide] at h,?_⟩
 ·rw[<-ae,fK]; exact run_enterLoop_outer _ _ _ _ _
 ·simp only[resolve,hg];simp[go_sem]
 ·intro f' _; trivial
 ·simp[invoke,go_sem,eg]
 ·rw[<-gL];have key:=hit (w.heap.size+1)
   (λpre Si W=>∃ S:Nat->Prop,(∀ k,Si k↔S k\/k=w.heap.size+1)/\(¬ S w.heap.size)/\(¬ S (w.heap.size+1))/\(∀ k,S k->S0 k\/w.heap.size<=k)/\I pre S W/\W.heap[w.heap.size+1]?=some (.loop (rec .ready none))/\W.heap[w.heap.size]?=some (.deferred (some [])))
   (λpre Si W=>∃ (S:Nat->Prop) (c:Code),(∀ k,Si k↔S k\/k=w.heap.size+1)/\(¬ S w.heap.size)/\(¬ S (w.heap.size+1))/\(∀ k,S k->S0 k\/w.heap.size<=k)/\Ix c pre S W/\W.heap[w.heap.size+1]?=some (.loop (rec .done (some c)))/\W.heap[w.heap.size]?=some (.deferred (some [])))
   (λk=>S0 k\/k=w.heap.size+1) W1 aq ?_ ?_ ?_ ?_ ?_ ?_
  ·refine key.mono ?_;rintro e W2 ⟨⟨v,rfl⟩,(⟨S',⟨S,dw,hD,hL,bM,hi,hl,hk⟩,_⟩ | ⟨pre,S',jf,⟨S,c,dw,hD,hL,bM,hi,hl,hk⟩,_⟩)⟩
   ·refine⟨none,_,by have:=run_endLoop (P:=P) hl (by rw[fK]; simp); rw[fK] at this; exact this,?_⟩;exact nT _ S _ (bQ _) hD bM (hI _ _ _ _ hi (jH _ (by omega) hL)) ((zQ (by omega)).trans hk)
   ·refine⟨some c,_,by have:=run_endLoop (P:=P) hl (by rw[fK]; simp); rw[fK] at this; exact this,?_⟩;exact gj _ c pre S _ (bQ _) hD bM jf ((jB c) _ _ _ _ hi (jH _ (by omega) hL)) ((zQ (by omega)).trans hk)
  ·rintro pre Si A1 B1 ⟨S,dw,hD,hL,bM,hi,hl,hk⟩ aB;have ab:w.heap.size+1<A1.heap.size:=(eQ.1 hl).1;exact⟨S,dw,hD,hL,bM,hI _ _ _ _ hi (aB.weaken (by omega) (λk e=>(dw k).2 (.inl e))),(aB.keep _ ab (.inl (by omega))).trans hl,(aB.keep _ (by omega) (.inl (by omega))).trans hk⟩
  ·rintro pre Si A1 B1 ⟨S,c,dw,hD,hL,bM,hi,hl,hk⟩ aB;have ab:w.heap.size+1<A1.heap.size:=(eQ.1 hl).1;exact⟨S,c,dw,hD,hL,bM,jB c _ _ _ _ hi (aB.weaken (by omega) (λk e=>(dw k).2 (.inl e))),(aB.keep _ ab (.inl (by omega))).trans hl,(aB.keep _ (by omega) (.inl (by omega))).trans hk⟩
  ·
   rintro pre x Si W cC ⟨S,dw,hD,hL,bM,hi,hl,hk⟩ gk LI;have ab:w.heap.size+1<W.heap.size:=(eQ.1 hl).1;have AT:∀ k,S k->k<W.heap.size:=λk e=>gk k ((dw k).2 (.inl e));have hy:=run_yield (P:=P) (args:=encs x) hl (by rw[fK]; exact ew x);rw[fK] at hy;refine⟨fn,_,assign,body,hy,roundIn_of_wpIn gK (wpIn_mono (CR _ pre x S W cC hi AT) ?_)⟩;intro e a1 Wa hq
   cases e with
   | normal=>
    obtain⟨S1,gw,aZ,Bk,Cg⟩:=hq;have tS:¬ S1 w.heap.size:=λe=>by rcases aZ _ e with e | e; exact hD e; omega
    have p9:¬ S1 (w.heap.size+1):=λe=>by rcases aZ _ e with e | e; exact hL e; omega
    have pY:Wa.heap[w.heap.size+1]?=some (.loop (rec .ready none)):=(gw.keep _ ab hL).trans hl;have Cn:Wa.heap[w.heap.size]?=some (.deferred (some [])):=(gw.keep _ (by omega) hD).trans hk;have uI:w.heap.size+1<Wa.heap.size:=(eQ.1 pY).1;refine⟨_,run_beginRound pY (by rw[fK]),?_⟩;have hb:=BA (w.heap.size+1) pre x S1 a1 (Wa.putObj (w.heap.size+1) (.loop { rec .ready none with state:=.busy })) cC (hA _ _ _ _ _ _ Cg (jH _ (by omega) p9)) (λk e=>by simpa using Bk k e);refine wpIn_mono hb ?_;have fin:∀ (jump:Option Code) (W3:World) (S3:Nat->Prop),RdStep S1 (Wa.putObj (w.heap.size+1) (.loop { rec .ready none with state:=.busy })) W3->(∀ k,S3 k->S1 k\/(Wa.putObj (w.heap.size+1) (.loop { rec .ready none with state:=.busy })).heap.size<=k)->(∀ k,S3 k->k<W3.heap.size)->
     (Instr.endRound (w.heap.size+1) jump).run P W3 = .ok (.bool jump.isNone) (W3.putObj (w.heap.size+1) (.loop (rec (if jump.isNone then .ready else .done) jump)))/\
     (W3.putObj (w.heap.size+1) (.loop (rec (if jump.isNone then .ready else .done) jump))).heap[w.heap.size+1]?=some (.loop (rec (if jump.isNone then .ready else .done) jump))/\
     (W3.putObj (w.heap.size+1) (.loop (rec (if jump.isNone then .ready else .done) jump))).heap[w.heap.size]?=some (.deferred (some []))/\
     ¬ S3 w.heap.size/\¬ S3 (w.heap.size+1)/\(∀ k,S3 k->S k\/W.heap.size<=k)/\
     RdStep Si W (W3.putObj (w.heap.size+1) (.loop (rec (if jump.isNone then .ready else .done) jump))):=λjump W3 S3 dj dO dl=>by
     have dz:(Wa.putObj (w.heap.size+1) (.loop { rec .ready none with state:=.busy })).heap[w.heap.size+1]?=some (.loop { rec .ready none with state:=.busy }):=World.putObj_heap_same uI;have kW:(Wa.putObj (w.heap.size+1) (.loop { rec .ready none with state:=.busy })).heap[w.heap.size]?=some (.deferred (some [])):=(zQ (by omega)).trans Cn;have oi:=(dj.keep _ (by simpa using uI) p9).trans dz;have no:=(dj.keep _ (by simp; omega) tS).trans kW;have nX:=(eQ.1 oi).1
     have:=run_endRound (P:=P) jump oi
     rw[fK] at this |-;have lI:=dj.size;have sh:=gw.size;simp only[World.putObj_size] at lI dO;refine⟨this,World.putObj_heap_same nX,(zQ (by omega)).trans no,λe=>?_,λe=>?_,λk e=>?_,?_⟩
     ·rcases dO _ e with e | e; exact tS e; omega
     ·rcases dO _ e with e | e; exact p9 e; omega
     ·rcases dO _ e with e | e
      ·exact aZ _ e
      ·right; omega
     ·refine⟨dj.os.trans gw.os,dj.tape.trans gw.tape,dj.output.trans gw.output,by simp; omega,λk hk' uq=>?_⟩;have mV:k≠w.heap.size+1:=λe=>uq ((dw k).2 (.inr e));have uj:¬ S k:=λe=>uq ((dw k).2 (.inl e));have Bu:¬ S1 k:=λe=>by rcases aZ _ e with e | e; exact uj e; omega
      exact (zQ mV).trans ((dj.keep k (by simp; omega) Bu).trans ((zQ mV).trans (gw.keep k hk' uj)))
    have fin2:∀ (S3:Nat->Prop) (W3:World) (o:Obj),(∀ k,S3 k->k<W3.heap.size)->W.heap.size<=W3.heap.size->(∀ k,S3 k->S k\/W.heap.size<=k)->
     (∀ k,(S3 k\/k=w.heap.size+1)->Si k\/W.heap.size<=k)/\(∀ k,(S3 k\/k=w.heap.size+1)->k<(W3.putObj (w.heap.size+1) o).heap.size):=λS3 W3 o h1 h2 h3=>
     ⟨λk e=>by rcases e with e | e; exact (h3 k e).imp (λe'=>(dw k).2 (.inl e')) id; exact .inl ((dw k).2 (.inr e)),λk e=>by
      simp only[World.putObj_size];rcases e with e | e
      ·exact h1 k e
      ·omega⟩
    have sub3:∀ (S3:Nat->Prop),(∀ k,S3 k->S k\/W.heap.size<=k)->∀ k,S3 k->S0 k\/w.heap.size<=k:=λS3 h k e=>by
     rcases h k e with e | e
     ·exact bM k e
     ·right; omega
    rintro e a3 W3 hp
    cases e with
    | normal=>
     obtain⟨S3,dj,dO,dl,lj⟩:=hp;obtain⟨hr,k9,kB,iB,gv,dZ,bA⟩:=fin none W3 S3 dj dO dl;have an:W.heap.size<=W3.heap.size:=by simpa using bA.size
     refine⟨_,_,hr,λk=>S3 k\/k=w.heap.size+1,bA,(fin2 S3 W3 (.deferred none) dl an dZ).1,(fin2 S3 W3 _ dl an dZ).2,.inl ⟨rfl,S3,λ_=>Iff.rfl,iB,gv,sub3 S3 dZ,hI _ _ _ _ lj (jH _ (by omega) gv),k9,kB⟩⟩
    | ret=>
     obtain⟨S3,dj,dO,dl,lj⟩:=hp;obtain⟨hr,k9,kB,iB,gv,dZ,bA⟩:=fin (some .ret) W3 S3 dj dO dl;have an:W.heap.size<=W3.heap.size:=by simpa using bA.size
     refine⟨_,_,hr,λk=>S3 k\/k=w.heap.size+1,bA,(fin2 S3 W3 (.deferred none) dl an dZ).1,(fin2 S3 W3 _ dl an dZ).2,.inr ⟨rfl,S3,.ret,λ_=>Iff.rfl,iB,gv,sub3 S3 dZ,jB _ _ _ _ _ lj (jH _ (by omega) gv),k9,kB⟩⟩
    | exit id=>
     obtain⟨S3,dj,dO,dl,lj⟩:=hp;obtain⟨hr,k9,kB,iB,gv,dZ,bA⟩:=fin (some (.exit id)) W3 S3 dj dO dl;have an:W.heap.size<=W3.heap.size:=by simpa using bA.size
     refine⟨_,_,hr,λk=>S3 k\/k=w.heap.size+1,bA,(fin2 S3 W3 (.deferred none) dl an dZ).1,(fin2 S3 W3 _ dl an dZ).2,.inr ⟨rfl,S3,.exit id,λ_=>Iff.rfl,iB,gv,sub3 S3 dZ,jB _ _ _ _ _ lj (jH _ (by omega) gv),k9,kB⟩⟩
    | goto t=>exact hp.elim
    | panic ch=>exact hp.elim
    | outgrown=>exact hp.elim
   | ret=>exact hq.elim
   | exit id=>exact hq.elim
   | goto t=>exact hq.elim
   | panic ch=>exact hq.elim
   | outgrown=>exact hq.elim
  ·rintro k (e | rfl)
   ·exact qi k e
   ·exact λh=>by have h1:=(da.2 _ h).1; have h2:=da.1; omega
  ·rintro k (e | rfl)
   ·have:=ls k e; omega
   ·omega
  ·exact⟨S0,λ_=>Iff.rfl,λe=>by have:=ls _ e; omega,λe=>by have:=ls _ e; omega,λ_ e=>.inl e,mp,iH,CL⟩
theorem Gk{α:Type}{P:Program}{g:Operand}{ps:Array Tmp}{assign body:Code}{Q:Exit->Act->World->Prop}{a:Act}{w:World}
 {gf:FuncId} {first captured:Array Value} (hg:a.eval g = .func (.func gf) first captured) (eg:∀ args w,(callFunc gf args).run P w = .ok (.enter gf args) w)
 {mk:Value->Array Value} {encs:α->Array Value} {xs:List α} {Dr:Nat->Prop} {w0:World} (gL:∀ y,mk y=first ++ #[y]++captured)
 (hit:Is P gf mk encs xs Dr w0) (da:gt Dr w0 w) (ew:∀ x,(encs x).size=ps.size)
 (I:List α->(Nat->Prop)->World->Prop) (Ix:Code->List α->(Nat->Prop)->World->Prop)
 (hI:gh w.heap.size I) (jB:∀ c,gh w.heap.size (Ix c))
 (S0:Nat->Prop) (qi:∀ k,S0 k->¬ Dr k) (ls:∀ k,S0 k->k<w.heap.size) (h0:I [] S0 w)
 (Cu:∀ (l0:Nat) (pre:List α) (x:α) (S:Nat->Prop) (W:World),pre ++ [x] <+: xs->I pre S W->(∀ k,S k->k<W.heap.size)->
   assign.wpIn (Fence.wide.inRound l0) 0 P (Exit.then (λa₁ W₁=>∃ S',RdStep S W W₁/\(∀ k,S' k->S k\/W.heap.size<=k)/\(∀ k,S' k->k<W₁.heap.size)/\
    ∀ l W₂,ItStep w.heap.size S' W₁ W₂->body.wpIn (Fence.wide.inRound l) 0 P (nF I Ix (pre ++ [x]) S' W₂) a₁ W₂) (λ_ _ _=>False))
    { tmps:=(ps.zip (encs x)).foldl (λt (p,v)=>t.setIfInBounds p v) a.tmps,defers:=[] } W)
 (nT:∀ (D:Nat) (S:Nat->Prop) (W:World),w.heap.size<=D->¬ S D->(∀ k,S k->S0 k\/w.heap.size<=k)->I xs S W->W.heap[D]?=some (.deferred (some []))->
   Q .normal { a with defers:={ target:=.collected D,args:=#[] } :: a.defers } W)
 (gj:∀ (D:Nat) (c:Code) (pre:List α) (S:Nat->Prop) (W:World),w.heap.size<=D->¬ S D->(∀ k,S k->S0 k\/w.heap.size<=k)->pre <+: xs->Ix c pre S W->W.heap[D]?=some (.deferred (some []))->
   c.wpIn Fence.wide 0 P Q { a with defers:={ target:=.collected D,args:=#[] } :: a.defers } W) :
 (Code.rangeFunc g ps assign body).wpIn Fence.wide 0 P Q a w:=
 U5 hg eg gL hit da ew I Ix (λpre x S a₁ W=>∀ l W₂,ItStep w.heap.size S W W₂->body.wpIn (Fence.wide.inRound l) 0 P (nF I Ix (pre ++ [x]) S W₂) a₁ W₂)
  hI jB (λ_ _ _ _ _ _ h hs l W₂ h2=>h l W₂ (hs.trans h2)) S0 qi ls h0 Cu (λl _ _ _ _ W _ h _=>h l W (ItStep.refl _ _ _)) nT gj
end
section
open Go.RowKit Go.Shelf
attribute [local go_sem] Oper.semAt_some
structure CV where
 host:Int
 frm:Int
 til:Int
 str:ByteArray
 A:Option Addr
 n:Nat
 c:Nat
def CV.cells(x:CV):Array Value:=#[.int .i64 x.host,.int .i64 x.frm,.int .i64 x.til,.string x.str,.slice x.A x.n x.c]
structure CVOf(w:World)(B:Nat)(x:CV)(c:Np.Copy):Prop where
 host:x.host=c.host
 frm:x.frm=c.frm
 til:x.til=c.til
 apex:x.str.data.toList=c.zone.apex
 size:x.str.size<=140737488355328
 sets:SlR bK 5 w B (.slice x.A x.n x.c) c.zone.sets
 len:c.zone.sets.length=x.n
theorem CVOf.keep{w w':World}{B:Nat}{x:CV}{c:Np.Copy}(h:CVOf w B x c)(hb:Below B w w'):CVOf w' B x c:=⟨h.host,h.frm,h.til,h.apex,h.size,h.sets.keep aV hb,h.len⟩
theorem CVOf.more{w:World}{B B':Nat}{x:CV}{c:Np.Copy}(h:CVOf w B x c)(hb:B<=B'):CVOf w B' x c:=⟨h.host,h.frm,h.til,h.apex,h.size,h.sets.more bR hb,h.len⟩
theorem Ih{w:World}{B n c:Nat}{A:Option Addr}{xs:List Np.Copy}(h:SlR iF 5 w B (.slice A n c) xs):∃ L:List (CV×Np.Copy),L.map (·.2)=xs/\L.length=n/\∀ i x,L[i]?=some x->CVOf w B x.1 x.2/\∃ b o,A=some ⟨b,o,none⟩/\b<B/\cN w b (o+i * 5) x.1.cells.toList:=by
 have hn:n=xs.length:=by
  obtain⟨A',c',hA,_,_,_⟩:=h;simp only[Value.slice.injEq] at hA;exact hA.2.1
 have ax:∀ k,k<=xs.length->∃ L:List (CV×Np.Copy),L.map (·.2)=xs.take k/\∀ i x,L[i]?=some x->CVOf w B x.1 x.2/\∃ b o,A=some ⟨b,o,none⟩/\b<B/\cN w b (o+i * 5) x.1.cells.toList:=by
  intro k
  induction k with
  | zero=>exact λ_=>⟨[],by simp,λi x hx=>by simp at hx⟩
  | succ k ih=>
   intro hk;obtain⟨L,h1,h2⟩:=ih (by omega);have hlen:L.length=k:=by have:=Qd List.length h1; simp at this; omega
   obtain⟨b,o,s,v,hA,hb,hs,an,hv,f0,f1,f2,f3,f4⟩:=nC h (aQ (by omega:k<xs.length));obtain⟨Az,cz,rfl,_,_⟩:=ag hv;refine⟨L ++ [(⟨xs[k].host,xs[k].frm,xs[k].til,s,Az,xs[k].zone.sets.length,cz⟩,xs[k])],by rw[List.map_append,h1,fQ (by omega)]; rfl,λi x hx=>?_⟩;rcases Nat.lt_or_ge i L.length with ab | oW
   ·rw[List.getElem?_append_left ab] at hx;exact h2 i x hx
   ·rw[oQ oW] at hx;have h0:i - L.length=0:=by have:=(cQ.1 hx).1; simp at this; omega
    rw[h0] at hx;simp at hx;subst hx;obtain rfl:i=k:=by omega
    refine⟨⟨rfl,rfl,rfl,hs,an,hv,rfl⟩,b,o,hA,hb,λj u hj=>?_⟩
    match j,hj with
    | 0,hj=>simp[CV.cells] at hj; subst hj; exact f0
    | 1,hj=>simp[CV.cells] at hj; subst hj; exact f1
    | 2,hj=>simp[CV.cells] at hj; subst hj; exact f2
    | 3,hj=>simp[CV.cells] at hj; subst hj; exact f3
    | 4,hj=>simp[CV.cells] at hj; subst hj; exact f4
    | j+5,hj=>simp[CV.cells] at hj
 obtain⟨L,h1,h2⟩:=ax xs.length (bQ _);rw[List.take_length] at h1;exact⟨L,h1,by rw[hn,<-h1,List.length_map],h2⟩
theorem GN(a1 a2 a3 a4 a5 a6 a7 a8 a9:Value)(pf:FuncId)(caps:Array Value)(w:World) :
 Calls prog 45 #[.agg #[a1,a2,a3,a4,a5,a6,a7,a8,a9],.func (.func pf) #[] caps] w λe w'=>e = .returned (.func (.func 91) #[] #[.pointer (some ⟨w.heap.size,0,none⟩),.pointer (some ⟨w.heap.size+1,0,none⟩)])/\w'=(w.alloc (.cells #[a1,a2,a3,a4,a5,a6,a7,a8,a9] 29)).alloc (.cells #[.func (.func pf) #[] caps] 100):=by
 go_enter func45,ntmps45;go_wp2_with fail;go_ret;exact⟨rfl,rfl⟩
theorem Vb{α:Type}{p:α->Bool}{L:List α}{k:Nat}{x:α}(hx:L[k]?=some x):(L.take (k+1)).filter p=if p x then (L.take k).filter p ++ [x] else (L.take k).filter p:=by
 obtain⟨hl,he⟩:=cQ.1 hx;rw[fQ hl,he,List.filter_append]
 cases h:p x <;> simp[h]
theorem Tp{α:Type}(p:α->Bool)(L:List α)(k:Nat):(L.take k).filter p <+: L.filter p:=by
 conv => rhs; rw[<-List.take_append_drop k L]
 rw[List.filter_append];exact List.prefix_append _ _
theorem Gy(L:List (CV×Np.Copy))(p:CV×Np.Copy->Bool)(pf:FuncId)(caps:Array Value)(X Ob n c:Nat)(Dr:Nat->Prop)(A:Option Addr)(w:World)(hX:Dr X)(hO:Dr Ob)(kX:w.cell? ⟨X,1,none⟩=some (.slice A n c))(kO:w.cell? ⟨Ob,0,none⟩=some (.func (.func pf) #[] caps))(Qt:L.length=n)(yU:n<=500)
 (hL:∀ i x,L[i]?=some x->∃ b o,A=some ⟨b,o,none⟩/\Dr b/\cN w b (o+i * 5) x.1.cells.toList) (eg:∀ args w,(callFunc pf args).run prog w = .ok (.enter pf args) w)
 (hp:∀ x∈L,∀ W,gt Dr w W->Calls prog pf (#[.agg x.1.cells]++caps) W λe W'=>e = .returned (.bool (p x))/\Below W.heap.size W W') :
 Is prog 91 (λy=>#[y,.pointer (some ⟨X,0,none⟩),.pointer (some ⟨Ob,0,none⟩)]) (λx:CV×Np.Copy=>#[.agg x.1.cells]) (L.filter p) Dr w:=by
 intro l J Jx S W hW hJ Qi hY hS hS' h0;have k1:=(hW.cell (p:=⟨X,1,none⟩) hX).trans kX;have HW:=jq hW;have HL:=jq hL;have HP:=jq hp;have nf:=jq Qt;have KO:=jq kO;have zg:=hW.1;clear hW hL hp kX Qt kO;refine callsIn_of_wp func91 rfl trivial ?_ rfl;simp only[ntmps91,List.size_toArray,List.length_cons,List.length_nil,Nat.reduceAdd,Nat.reduceSub,Array.replicate_succ,Array.replicate_zero,List.push_toArray,List.append_toArray,List.nil_append,List.cons_append];gi_wp2_with fail;gi_loopw [9] (λi wr=>∃ (k:Nat) (S1:Nat->Prop),k<=n/\i = .int .i64 k/\J ((L.take k).filter p) S1 wr/\(∀ k,S1 k->k<wr.heap.size)/\(∀ k,S1 k->S k\/W.heap.size<=k)/\Hid (gt Dr w wr)/\W.heap.size<=wr.heap.size) (λi _=>n - (intOf i).toNat)
 case atStart=>exact⟨0,S,jQ _,rfl,by simpa using h0,hS',λ_ e=>.inl e,HW,bQ _⟩
 case round=>
  obtain⟨k,S1,hk,rfl,hj,fh,bM,aO,an⟩:=hrel;by_cases ab:k<n
  ·obtain⟨x,ac⟩:∃ x,L[k]?=some x:=⟨_,aQ (by rw[nf.out]; exact ab)⟩;obtain⟨b,o,rfl,hb,hce⟩:=HL.out k x ac;have mv:gt Dr w wr:=aO.out;obtain⟨⟨xh,xf,xt,xs,xA,xn,xc⟩,cc⟩:=x;have f0:wr.cell? ⟨b,o+k * 5,none⟩=some (.int .i64 xh):=(mv.cell (p:=⟨b,o+k * 5,none⟩) hb).trans (hce 0 _ rfl);have f1:wr.cell? ⟨b,o+k * 5+1,none⟩=some (.int .i64 xf):=(mv.cell (p:=⟨b,o+k * 5+1,none⟩) hb).trans (hce 1 _ rfl);have f2:wr.cell? ⟨b,o+k * 5+2,none⟩=some (.int .i64 xt):=(mv.cell (p:=⟨b,o+k * 5+2,none⟩) hb).trans (hce 2 _ rfl);have f3:wr.cell? ⟨b,o+k * 5+3,none⟩=some (.string xs):=(mv.cell (p:=⟨b,o+k * 5+3,none⟩) hb).trans (hce 3 _ rfl);have f4:wr.cell? ⟨b,o+k * 5+4,none⟩=some (.slice xA xn xc):=(mv.cell (p:=⟨b,o+k * 5+4,none⟩) hb).trans (hce 4 _ rfl);have qh:=jq ac;clear hce ac;have bW:(0:Int)<=(k:Int):=by omega
   have bV:(k:Int)<(n:Int):=by omega
   obtain⟨w2,ai⟩:∃ w2,wr.alloc (.cells #[.int .i64 xh,.int .i64 xf,.int .i64 xt,.string xs,.slice xA xn xc] 58)=w2:=⟨_,rfl⟩;have aN:w2.heap.size=wr.heap.size+1:=by rw[<-ai]; simp
   have aa:Below wr.heap.size wr w2:=by rw[<-ai]; exact (vQ _ _).alloc (bQ _) _
   have p0:w2.cell? ⟨wr.heap.size,0,none⟩=some (.int .i64 xh):=by rw[<-ai]; simp[go_sem]
   have p1:w2.cell? ⟨wr.heap.size,1,none⟩=some (.int .i64 xf):=by rw[<-ai]; simp[go_sem]
   have p2:w2.cell? ⟨wr.heap.size,2,none⟩=some (.int .i64 xt):=by rw[<-ai]; simp[go_sem]
   have p3:w2.cell? ⟨wr.heap.size,3,none⟩=some (.string xs):=by rw[<-ai]; simp[go_sem]
   have p4:w2.cell? ⟨wr.heap.size,4,none⟩=some (.slice xA xn xc):=by rw[<-ai]; simp[go_sem]
   have KW:gt Dr w w2:=mv.of_below aa;have qO:=(KW.cell (p:=⟨Ob,0,none⟩) hO).trans KO.out;have ak:=jq aa;have f9:=jq KW;clear mv aa KW;gi_wp2_with fail;refine⟨trivial,rfl,?_⟩;refine (callsIn_wide.2 (HP.out _ (gQ qh.out) w2 f9.out)).mono ?_;rintro e w3 ⟨rfl,ah⟩;replace p0:=(cl ah (by omega)).trans p0;replace p1:=(cl ah (by omega)).trans p1;replace p2:=(cl ah (by omega)).trans p2;replace p3:=(cl ah (by omega)).trans p3;replace p4:=(cl ah (by omega)).trans p4;have dP:=ah.size;have Fz:Below wr.heap.size wr w3:=ak.out.trans (ah.mono (by omega));have ER:=hJ _ _ _ _ hj (ItStep.of_below Fz);have av:=jq (aO.out.of_below Fz);have HT:=jq (Vb (p:=p) qh.out);clear ai ah hj qO
   cases cC:p (⟨xh,xf,xt,xs,xA,xn,xc⟩,cc) with
   | false=>
    have HX:=jq cC;clear cC Fz;gi_wp2_with fail;refine⟨λ_ _=>trivial,?_⟩;gi_wp2_with fail;go_roundw
    case rel=>exact⟨k+1,S1,by omega,by go_num,by rw[HT.out,HX.out]; exact ER,λk e=>by have:=fh k e; omega,bM,av,by omega⟩
    case measure=>simp[intOf] <;> omega
   | true=>
    have HX:=jq cC;have jf:(L.take k).filter p ++ [(⟨xh,xf,xt,xs,xA,xn,xc⟩,cc)] <+: L.filter p:=by
     have h1:=HT.out;rw[HX.out,Qb rfl] at h1;rw[<-h1];exact Tp p L (k+1)
    obtain⟨fn,tmps,assign,body,hy,hR⟩:=hY ((L.take k).filter p) (⟨xh,xf,xt,xs,xA,xn,xc⟩,cc) S1 w3 jf ER (λk e=>by have:=fh k e; omega) (by omega);have pS:Sem.run prog (Instr.yield l #[.agg #[.int .i64 xh,.int .i64 xf,.int .i64 xt,.string xs,.slice xA xn xc]]) w3 = .ok (.round l fn tmps assign body) w3:=hy;have aSZ:=jq jf;clear hy jf cC Fz;gi_wp2_with fail;refine⟨rfl,hR.mono ?_⟩;rintro e w4 ⟨S4,bA,SG,aDQ,(⟨rfl,hJ4⟩ | ⟨rfl,aDY⟩)⟩
    ·have bD:Hid (gt Dr w w4):=jq (av.out.round bA (λk e hd=>by
      rcases bM k e with e | e
      ·exact hS k e hd
      ·have:=(HW.out.2 k hd).1; omega))
     have ga:=bA.size;clear bA pS hR;gi_wp2_with fail;go_roundw
     case rel=>
      refine⟨k+1,S4,by omega,by go_num,by rw[HT.out,HX.out]; exact hJ4,aDQ,λk e=>?_,bD,by omega⟩;rcases SG k e with e | e
      ·exact bM k e
      ·right; omega
     case measure=>simp[intOf] <;> omega
    ·have ga:=bA.size;clear bA pS hR;gi_wp2_with fail;refine bodyPost_ret (results_none rfl _ _ _) rfl ?_;refine⟨⟨_,rfl⟩,.inr ⟨_,S4,aSZ.out,aDY,λk e=>?_⟩⟩;rcases SG k e with e | e
     ·exact bM k e
     ·right; omega
  ·have fe:Hid (L.take k=L):=jq (kQ (by rw[nf.out]; omega));rw[fe.out] at hj;gi_wp2_with fail;go_end0;exact⟨⟨_,rfl⟩,.inl ⟨S1,hj,bM⟩⟩
end
section
open Go.RowKit
theorem WS:∀ args w,(callFunc 46 args).run prog w = .ok (.enter 46 args) w:=enters_of func46 (by kernel_rfl) rfl
theorem VH:∀ args w,(callFunc 64 args).run prog w = .ok (.enter 64 args) w:=enters_of func64 (by kernel_rfl) rfl
theorem WR:∀ args w,(callFunc 69 args).run prog w = .ok (.enter 69 args) w:=enters_of func69 (by kernel_rfl) rfl
theorem WQ:∀ args w,(callFunc 70 args).run prog w = .ok (.enter 70 args) w:=enters_of func70 (by kernel_rfl) rfl
theorem Gx:∀ args w,(callFunc 91 args).run prog w = .ok (.enter 91 args) w:=enters_of func91 (by kernel_rfl) rfl
theorem ZV(h f u:Int)(s:ByteArray)(v:Value)(A:Option Addr)(n c:Nat)(hv:v = .slice A n c)(bt:Nat)(t:Int)(w:World)(hb:bt<w.heap.size)(ht:w.cell? ⟨bt,0,none⟩=some (.int .i64 t)) :
 Calls prog 46 #[.agg #[.int .i64 h,.int .i64 f,.int .i64 u,.string s,v],.pointer (some ⟨bt,0,none⟩)] w λe w'=>e = .returned (.bool (decide (f<=t)&&decide (t<u)))/\Below w.heap.size w w':=by
 subst hv;obtain⟨W1,ae⟩:∃ W1,w.alloc (.cells #[.int .i64 h,.int .i64 f,.int .i64 u,.string s,.slice A n c] 58)=W1:=⟨_,rfl⟩;have aq:Below w.heap.size w W1:=by rw[<-ae]; exact (vQ _ _).alloc (bQ _) _
 have k1:W1.cell? ⟨w.heap.size,1,none⟩=some (.int .i64 f):=by rw[<-ae]; simp[go_sem]
 have k2:W1.cell? ⟨w.heap.size,2,none⟩=some (.int .i64 u):=by rw[<-ae]; simp[go_sem]
 have kt:=(aq.cell (p:=⟨bt,0,none⟩) hb).trans ht;have HB:=jq aq;clear aq;go_enter func46,ntmps46;by_cases h1:f<=t
 ·have d1:decide (f<=t)=true:=uQ h1;by_cases h2:t<u
  ·have d2:decide (t<u)=true:=uQ h2;have HD:=jq (And.intro d1 d2);clear h1 h2;go_wp2_with fail;go_ret;exact⟨aj (by rw[HD.out.1,HD.out.2]; rfl),HB.out⟩
  ·have d2:decide (t<u)=false:=tQ h2;have HD:=jq (And.intro d1 d2);clear h1 h2;go_wp2_with fail;go_ret;exact⟨aj (by rw[HD.out.1,HD.out.2]; rfl),HB.out⟩
 ·have d1:decide (f<=t)=false:=tQ h1;have HD:=jq d1;clear h1;go_wp2_with fail;go_ret;exact⟨aj (by rw[HD.out]; rfl),HB.out⟩
theorem YE(h f u:Int)(s:ByteArray)(v:Value)(A:Option Addr)(n c:Nat)(hv:v = .slice A n c)(bz:Nat)(z:ByteArray)(w:World)(hb:bz<w.heap.size)(ht:w.cell? ⟨bz,0,none⟩=some (.string z)) :
 Calls prog 64 #[.agg #[.int .i64 h,.int .i64 f,.int .i64 u,.string s,v],.pointer (some ⟨bz,0,none⟩)] w λe w'=>e = .returned (.bool (s.data.toList == z.data.toList))/\Below w.heap.size w w':=by
 subst hv;obtain⟨W1,ae⟩:∃ W1,w.alloc (.cells #[.int .i64 h,.int .i64 f,.int .i64 u,.string s,.slice A n c] 58)=W1:=⟨_,rfl⟩;have aq:Below w.heap.size w W1:=by rw[<-ae]; exact (vQ _ _).alloc (bQ _) _
 have k1:W1.cell? ⟨w.heap.size,3,none⟩=some (.string s):=by rw[<-ae]; simp[go_sem]
 have kt:=(aq.cell (p:=⟨bz,0,none⟩) hb).trans ht;have HB:=jq aq;obtain⟨q,hq⟩:∃ q,(s.toList == z.toList)=q:=⟨_,rfl⟩;have HQ:Hid ((s.data.toList == z.data.toList)=q):=jq (by rw[<-hq,dQ,dQ]);clear aq;rw[HQ.out];go_enter func64,ntmps64;go_wp2_with fail;go_ret;exact⟨rfl,HB.out⟩
theorem Zj(s:ByteArray)(a o:Int)(ba:Nat)(addr:Int)(w:World)(hb:ba<w.heap.size)(ht:w.cell? ⟨ba,0,none⟩=some (.int .i64 addr)) :
 Calls prog 69 #[.agg #[.string s,.int .i64 a,.int .i64 o],.pointer (some ⟨ba,0,none⟩)] w λe w'=>e = .returned (.bool (decide (a=addr)))/\Below w.heap.size w w':=by
 obtain⟨W1,ae⟩:∃ W1,w.alloc (.cells #[.string s,.int .i64 a,.int .i64 o] 64)=W1:=⟨_,rfl⟩;have aq:Below w.heap.size w W1:=by rw[<-ae]; exact (vQ _ _).alloc (bQ _) _
 have k1:W1.cell? ⟨w.heap.size,1,none⟩=some (.int .i64 a):=by rw[<-ae]; simp[go_sem]
 have kt:=(aq.cell (p:=⟨ba,0,none⟩) hb).trans ht;have HB:=jq aq;obtain⟨q,hq⟩:∃ q,(a == addr)=q:=⟨_,rfl⟩;have HQ:Hid (decide (a=addr)=q):=jq (by rw[<-hq]; by_cases h:a=addr <;> simp[h]);clear aq;rw[HQ.out];go_enter func69,ntmps69;go_wp2_with fail;go_ret;exact⟨rfl,HB.out⟩
theorem Zi(h f u:Int)(s:ByteArray)(v:Value)(A:Option Addr)(n c:Nat)(hv:v = .slice A n c)(bh bz:Nat)(kk:Int)(z:ByteArray)(w:World)(hbh:bh<w.heap.size)(jS:bz<w.heap.size)(hth:w.cell? ⟨bh,0,none⟩=some (.int .i64 kk))(CD:w.cell? ⟨bz,0,none⟩=some (.string z)) :
 Calls prog 70 #[.agg #[.int .i64 h,.int .i64 f,.int .i64 u,.string s,v],.pointer (some ⟨bh,0,none⟩),.pointer (some ⟨bz,0,none⟩)] w λe w'=>e = .returned (.bool (decide (h=kk)&&(s.data.toList == z.data.toList)))/\Below w.heap.size w w':=by
 subst hv;obtain⟨W1,ae⟩:∃ W1,w.alloc (.cells #[.int .i64 h,.int .i64 f,.int .i64 u,.string s,.slice A n c] 58)=W1:=⟨_,rfl⟩;have aq:Below w.heap.size w W1:=by rw[<-ae]; exact (vQ _ _).alloc (bQ _) _
 have k0:W1.cell? ⟨w.heap.size,0,none⟩=some (.int .i64 h):=by rw[<-ae]; simp[go_sem]
 have k1:W1.cell? ⟨w.heap.size,3,none⟩=some (.string s):=by rw[<-ae]; simp[go_sem]
 have kh:=(aq.cell (p:=⟨bh,0,none⟩) hbh).trans hth;have kt:=(aq.cell (p:=⟨bz,0,none⟩) jS).trans CD;have HB:=jq aq;obtain⟨q,hq⟩:∃ q,(s.toList == z.toList)=q:=⟨_,rfl⟩;have HQ:Hid ((s.data.toList == z.data.toList)=q):=jq (by rw[<-hq,dQ,dQ]);clear aq;rw[HQ.out];go_enter func70,ntmps70;by_cases h1:h=kk
 ·have e1:(h == kk)=true:=by simpa using h1
  have HD:=jq (uQ h1);clear h1;go_wp2_with fail;go_ret;exact⟨aj (by rw[HD.out]; rfl),HB.out⟩
 ·have e1:(h == kk)=false:=by simpa using h1
  have HD:=jq (tQ h1);clear h1;go_wp2_with fail;go_ret;exact⟨aj (by rw[HD.out]; rfl),HB.out⟩
theorem Aa(e:List Value)(h:Np.Hist)(hf:Np.oR h)(w:World)(hR:iW w w.heap.size)(hh:bw w w.heap.size e h) :
 Calls prog 16 #[.agg e.toArray] w λe w'=>e = .returned (.bool (Np.yes (Np.VHist h)))/\Below w.heap.size w w':=by
 obtain⟨hv,cv,s,dv,cj,rfl,h1,h2,h3,h4,h5,h6⟩:=hh;obtain⟨hosts,copies,⟨name,ty,life,data⟩,hints,drift,stop⟩:=h;dsimp only at h1 h3 h4 h5 h6;subst h1;exact L5 _ hosts _ copies s h2 ty life _ data _ hints drift stop hf.1 hf.2 _ hR h3 h4 h5 h6
end
end Go.Proofs.YtbfbobfbgabjiaaGreatDoor
