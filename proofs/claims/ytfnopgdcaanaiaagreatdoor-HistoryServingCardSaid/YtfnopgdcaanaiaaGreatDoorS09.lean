/- No condition. -/
import Derived.Test.YtfnopgdcaanaiaaGreatDoorS02
import Derived.Test.YtfnopgdcaanaiaaGreatDoorS03
import Derived.Test.YtfnopgdcaanaiaaGreatDoorS05
set_option linter.all false
set_option maxRecDepth 100000
set_option maxHeartbeats 8000000
namespace Go.Proofs.YtfnopgdcaanaiaaGreatDoor
open Go.Proofs.Tryz
namespace Np
def yv(s:Signed):Prop:=∀ g∈s.sigs,0<=g.sum/\g.sum<18446744073709551616
def pr(h:Hist):Prop:=∀ c∈h.copies,∀ s∈c.zone.sets,yv s
theorem baZ{c:UInt8}(h:sT c=true):c≠47:=by rintro rfl;revert h;decide
theorem FF{l:List UInt8}(h:al l=true):47∉l:=λhm=>by
 obtain⟨_,rfl | ⟨c,r,rfl,_,hr⟩⟩:=zC h
 ·revert hm;decide
 ·exact baZ (List.all_eq_true.1 hr 47 hm) rfl
theorem acX{l:List UInt8}(h:jT l=true):47∉l:=λhm=>by
 unfold jT at h;simp only[Bool.and_eq_true] at h
 have:=List.all_eq_true.1 h.2 47 hm
 revert this;decide
theorem bkZ{k:Int}{l:List UInt8}(h:xF k l=true):47∉l:=by
 unfold xF at h;split at h
 ·simp only[Bool.and_eq_true] at h;exact FF h.1
 ·split at h
  ·exact FF h
  ·split at h
   ·exact acX h
   ·have:l = []:=by simpa using h
    rw[this];simp
theorem TA(k:Int):0<=(ca k).leastN/\0<=(ca k).leastM:=by
 unfold ca;generalize k.toNat=n;by_cases h:n<9
 ·have:∀ m,m<9->0<=(rules.getD m ⟨0,0,0,0,0,false,false,false⟩).leastN/\0<=(rules.getD m ⟨0,0,0,0,0,false,false,false⟩).leastM:=by decide
  exact this n h
 ·have e:rules[n]?=none:=List.getElem?_eq_none (by simp[rules];omega);rw[List.getD_eq_getElem?_getD,e];decide
theorem Zp{k:Int}{d:Datum}(h:jV (ca k) d=true):47∉d.text/\0<=d.n/\0<=d.m:=by
 unfold jV at h;simp only[Bool.and_eq_true,Qa] at h;obtain⟨⟨⟨⟨h1,_⟩,h2,_⟩,_⟩,h3⟩:=h
 have:=TA k
 exact⟨bkZ h3,by omega,by omega⟩
theorem uG{z:Zone}(v:VZone z):al z.apex=true/\∀ x∈z.sets,dT x.set=true:=by
 have h:=v.right;unfold eK at h;simp only[Bool.and_eq_true] at h;exact⟨h.1.1,Et h.2⟩
theorem Ut{z:Zone}(v:VZone z){x:Signed}(hx:x∈z.sets)(hs:yv x):Plain47 x:=by
 obtain⟨ha,hv⟩:=uG v;obtain⟨h1,h2,h3,h4,h5,h6,h7,h8⟩:=zP (hv x hx);refine⟨FF h1,by omega,h4,λd hd=>Zp (Jf h8 d hd),λg hg=>?_⟩;obtain⟨i,hi⟩:=List.mem_iff_getElem?.1 hg
 have:=(v.form x hx).2 i g hi
 exact⟨by rw[this.zone];exact FF ha,by have:=this.key;omega,by have:=this.alg;omega,this.win.1,by have:=this.win;omega,(hs g hg).1⟩
def nN(us:List Signed):List (List UInt8×Value):=us.zipIdx.map λp=>(jm p.1,.int .i64 ((p.2:Nat):Int))
theorem aLQ(us:List Signed)(s:Signed):nN (us ++ [s])=nN us ++ [(jm s,.int .i64 ((us.length:Nat):Int))]:=by
 unfold nN;rw[List.zipIdx_append,List.map_append];simp
theorem Sf:∀ (us:List Signed) (n:Nat) (s:Signed),Plain47 s->(∀ x∈us,Plain47 x)->s∉us->((us.zipIdx n).map λp=>(jm p.1,Value.int .i64 ((p.2:Nat):Int))).lookup (jm s)=none
 | [],_,_,_,_,_=>rfl
 | x::us,n,s,hs,hu,hn=>by
   rw[List.zipIdx_cons,List.map_cons,List.lookup_cons];have hne:(jm s == jm x)=false:=by
    rw[beq_eq_false_iff_ne];intro e;exact hn (by rw[Se hs (hu x (by simp)) e];simp)
   rw[hne];exact Sf us (n+1) s hs (λy hy=>hu y (mQ _ hy)) (λh=>hn (mQ _ h))
theorem aKY{us:List Signed}{s:Signed}(hs:Plain47 s)(hu:∀ x∈us,Plain47 x)(hn:s∉us):(nN us).lookup (jm s)=none:=Sf us 0 s hs hu hn
theorem Sg:∀ (us:List Signed) (n:Nat) (s:Signed) (i:Nat),Plain47 s->(∀ x∈us,Plain47 x)->us.Nodup->us[i]?=some s->((us.zipIdx n).map λp=>(jm p.1,Value.int .i64 ((p.2:Nat):Int))).lookup (jm s)=some (.int .i64 ((n+i:Nat):Int))
 | [],_,_,_,_,_,_,h=>by simp at h
 | x::us,n,s,i,hs,hu,hd,h=>by
   rw[List.zipIdx_cons,List.map_cons,List.lookup_cons]
   cases i with
   | zero=>
    have e:x=s:=by simpa using h
    subst e;simp
   | succ i=>
    have h':us[i]?=some s:=by simpa using h
    have hne:(jm s == jm x)=false:=by
     rw[beq_eq_false_iff_ne];intro e
     have:=Se hs (hu x (by simp)) e
     subst this;exact (List.nodup_cons.1 hd).1 (gQ h')
    rw[hne]
    have:=Sg us (n+1) s i hs (λy hy=>hu y (mQ _ hy)) (List.nodup_cons.1 hd).2 h'
    rw[show n+(i+1)=n+1+i by omega];exact this
theorem aLZ{us:List Signed}{s:Signed}{i:Nat}(hs:Plain47 s)(hu:∀ x∈us,Plain47 x)(hd:us.Nodup)(h:us[i]?=some s):(nN us).lookup (jm s)=some (.int .i64 ((i:Nat):Int)):=by
 have:=Sg us 0 s i hs hu hd h
 rwa [Nat.zero_add] at this
def en(ps:List (Span×Signed)):List (Signed×List Span):=(dH (ps.map (·.2))).map λs=>(s,f9 ps s)
theorem aQQ(ps:List (Span×Signed)):(en ps).map (·.1)=dH (ps.map (·.2)):=by
 unfold en;rw[List.map_map];exact List.map_id'' (λ_=>rfl) _
theorem aQZ(f:List Span->List Span)(zone:List UInt8)(ps:List (Span×Signed)):J2 f zone ps=(en ps).map λx=>⟨zone,x.1,f x.2,[]⟩:=by
 unfold J2 en;rw[List.map_map];rfl
theorem aQK{ps:List (Span×Signed)}{p:Span×Signed}(h:p.2∉dH (ps.map (·.2))):en (ps ++ [p])=en ps ++ [(p.2,[p.1])]:=by
 have hn:p.2∉ps.map (·.2):=λhm=>h (FD.2 hm);unfold en;rw[List.map_append,List.map_singleton,LH,k9,Qc h,List.map_append];congr 1
 ·refine List.map_congr_left λs hs=>?_;rw[Gh,Qc (show ¬ p.2=s from λe=>h (by rw[e];exact hs))]
 ·simp[Gh,bkY hn]
theorem aQX{ps:List (Span×Signed)}{p:Span×Signed}{i:Nat}(h:(dH (ps.map (·.2)))[i]?=some p.2):en (ps ++ [p])=(en ps).set i (p.2,f9 ps p.2 ++ [p.1]):=by
 obtain⟨hi,he⟩:=cQ.1 h;have hm:p.2∈dH (ps.map (·.2)):=by rw[<-he];exact List.getElem_mem _
 have sw:=CY (ps.map (·.2));have hu:dH ((ps ++ [p]).map (·.2))=dH (ps.map (·.2)):=by rw[List.map_append,List.map_singleton,LH,Oo hm]
 refine List.ext_getElem? λj=>?_;rw[List.getElem?_set];unfold en;rw[hu,List.getElem?_map,List.getElem?_map,List.length_map];by_cases de:i=j
 ·subst de;rw[Qb rfl,Qb hi,h,Option.map_some,Gh,Qb rfl]
 ·rw[Qc de]
  cases hj:(dH (ps.map (·.2)))[j]? with
  | none=>rfl
  | some s=>
   obtain⟨qR,pN⟩:=cQ.1 hj;have hne:p.2≠s:=λe=>de ((List.getElem_inj (h₀:=hi) (h₁:=qR) sw).1 (he.trans (e.trans pN.symm)));rw[Option.map_some,Option.map_some,Gh,Qc hne]
theorem aQJ(ps:List (Span×Signed)):(en ps).length=(dH (ps.map (·.2))).length:=List.length_map _
end Np
section
open Go.RowKit
structure BldT(T:TypeId):Prop where
 lies:liesAt prog prog.depth T (2 / prog.cellsOf T) 0 198 1=true
 ne:T≠5
def Bld(T:TypeId)(B b:Nat)(r:Option Nat)(l:List UInt8)(w:World):Prop:=
 ∃ p v,(p = .pointer none\/p = .pointer (some ⟨b,0,none⟩))/\B<=b/\w.heap[b]?=some (.cells #[p,v] T (0,0))/\w.ownsRow B 5 1 v l.length (Lib.byteCells l)/\v.ownBlock=r/\r≠some b/\(l = []->v = .slice none 0 0)
structure BS(b:Nat)(r:Option Nat)(w:World)(r':Option Nat)(w':World):Prop where
 os:w'.os=w.os
 tape:w'.tape=w.tape
 output:w'.output=w.output
 size:w.heap.size<=w'.heap.size
 keep:∀ k,k<w.heap.size->k≠b->r≠some k->w'.heap[k]?=w.heap[k]?
 at_:r'=r\/∃ k,w.heap.size<=k/\r'=some k
theorem BS.refl(b:Nat)(r:Option Nat)(w:World):BS b r w r w:=⟨rfl,rfl,rfl,bQ _,λ_ _ _ _=>rfl,.inl rfl⟩
theorem BS.trans{b:Nat}{r r' r'':Option Nat}{w w' w'':World}(h:BS b r w r' w')(k:BS b r' w' r'' w''):BS b r w r'' w'':=by
 refine⟨k.os.trans h.os,k.tape.trans h.tape,k.output.trans h.output,yQ h.size k.size,λi hi hb hr=>?_,?_⟩
 ·refine (k.keep i (lQ hi h.size) hb (λe=>?_)).trans (h.keep i hi hb hr);rcases h.at_ with e' | ⟨j,hj,e'⟩
  ·rw[e'] at e;exact hr e
  ·rw[e'] at e;simp at e;omega
 ·rcases k.at_ with e | ⟨j,hj,e⟩
  ·rcases h.at_ with e' | ⟨j,hj,e'⟩
   ·exact .inl (e.trans e')
   ·exact .inr ⟨j,hj,e.trans e'⟩
  ·exact .inr ⟨j,yQ h.size hj,e⟩
theorem BS.of_below{b:Nat}{r:Option Nat}{w w':World}(h:Below w.heap.size w w'):BS b r w r w':=⟨h.os,h.tape,h.output,h.size,λk hk _ _=>h.block k hk,.inl rfl⟩
theorem BS.after{b:Nat}{r r':Option Nat}{w w' w'':World}(h:BS b r w r' w')(k:Below w'.heap.size w' w''):BS b r w r' w'':=h.trans (BS.of_below k)
theorem BS.below{b:Nat}{r r':Option Nat}{w w':World}{n:Nat}(h:BS b r w r' w')(hb:n<=b)(hr:∀ k,r=some k->n<=k)(hn:n<=w.heap.size):Below n w w':=
 ⟨h.os,h.tape,h.output,h.size,λk hk=>h.keep k (by omega) (by omega) (λe=>by have:=hr k e;omega)⟩
theorem BS.cell{b:Nat}{r r':Option Nat}{w w':World}(h:BS b r w r' w'){k:Nat}(hk:k<w.heap.size)(hb:k≠b)(hr:r≠some k)(o:Nat):w'.cell? ⟨k,o,none⟩=w.cell? ⟨k,o,none⟩:=iQ (w:=w) (h.keep k hk hb hr)
theorem BS.free{b:Nat}{r r':Option Nat}{w w':World}(h:BS b r w r' w'){k:Nat}(hk:k<w.heap.size)(hr:r≠some k):r'≠some k:=λe=>by
 rcases h.at_ with e' | ⟨j,hj,e'⟩
 ·rw[e'] at e;exact hr e
 ·rw[e'] at e;simp at e;omega
theorem Bld.row{T:TypeId}{B b:Nat}{r:Option Nat}{l:List UInt8}{w:World}(h:Bld T B b r l w):B<=b/\b<w.heap.size/\∀ k,r=some k->B<=k/\k<w.heap.size:=by
 obtain⟨p,v,_,hB,hb,ho,rfl,_,_⟩:=h;exact⟨hB,(eQ.1 hb).1,λk hk=>ho.lt k hk⟩
theorem Bld.keep{T:TypeId}{B b:Nat}{r:Option Nat}{l:List UInt8}{w w':World}(h:Bld T B b r l w)(hb:Below w.heap.size w w'):Bld T B b r l w':=by
 have hrow:=h.row;obtain⟨p,v,hp,hB,hh,ho,rfl,hne,hn⟩:=h;refine⟨p,v,hp,hB,(hb.block b hrow.2.1).trans hh,dS ho (λg hg=>hb.block g (hrow.2.2 g hg).2),rfl,hne,hn⟩
theorem Bld.fresh(T:TypeId)(w:World):Bld T w.heap.size w.heap.size none [] (w.alloc (.cells #[.pointer none,.slice none 0 0] T)):=
 ⟨_,_,.inl rfl,bQ _,heap_alloc_new w _,World.ownsRow_nil _ _ _ _,rfl,by simp,λ_=>rfl⟩
theorem aVY{w:World}{base:Nat}{e T:TypeId}{v:Value}{n:Nat}{xs:List Value}{b:Nat}{cs:Array Value}{fr:Nat×Nat}(ho:w.ownsRow base e 1 v n xs)(hb:w.heap[b]?=some (.cells cs T fr))(hT:T≠e):v.ownBlock≠some b:=by
 intro h;rcases ho.2 with ⟨rfl,_⟩ | ⟨g,cap,cur,rfl,_,hg,_⟩
 ·cases h
 ·have:g=b:=Option.some.inj h
  subst this;rw[hb] at hg;simp only[Option.some.injEq,Obj.cells.injEq] at hg;exact hT hg.2.1
theorem YJ:prog.cellsOf 5=1:=by kernel_rfl
theorem Ll:(prog.info? 198).map (·.size)=some 2:=by kernel_rfl
theorem Za(b:Nat)(w:World)(h0:w.cell? ⟨b,0,none⟩=some (.pointer (some ⟨b,0,none⟩))) :
 Calls prog 210 #[.pointer (some ⟨b,0,none⟩)] w λe w'=>e = .returned (.tuple #[])/\w'=w:=by
 obtain⟨j,hj,_⟩:=Option.map_eq_some_iff.1 Ll;go_enter func210,ntmps210;go_wp2;rw[Lib.run_neq_ptr_same w _ underlying195 hj];go_wp2;go_end0;exact⟨rfl,rfl⟩
theorem Y9{T:TypeId}(hT:BldT T)(b:Nat)(w:World)(h0:w.cell? ⟨b,0,none⟩=some (.pointer none))(Rk:w.shape? b=some (T,2))(vY:w.frozen? ⟨b,0,none⟩=false) :
 Calls prog 210 #[.pointer (some ⟨b,0,none⟩)] w λe w'=>e = .returned (.tuple #[])/\w'=w.setCell ⟨b,0,none⟩ (.pointer (some ⟨b,0,none⟩)):=by
 obtain⟨j,hj,sh⟩:=Option.map_eq_some_iff.1 Ll;go_enter func210,ntmps210;go_wp2;rw[Lib.run_to_unsafe w ⟨b,0,none⟩ underlying195 underlying325 hj (by rw[sh];decide) Rk (Nat.zero_lt_succ 1)];simp only[Result.andThen];rw[Oper.upon_value];go_wp2;rw[run_callFunc_extern func283 (by kernel_rfl) (by kernel_rfl) (by kernel_rfl) (e:=Extern.AbiNoEscape.same) (by kernel_rfl)];rw[Lib.run_noEscape];simp only[Result.andThen];rw[Oper.upon_value];go_wp2;rw[Lib.run_from_unsafe w ⟨b,0,none⟩ underlying325 underlying195 hj Rk hT.lies];simp only[Result.andThen];rw[Oper.upon_value];go_wp2;go_end0;exact⟨rfl,rfl⟩
def Used(T:TypeId)(B b:Nat)(r:Option Nat)(l:List UInt8)(w:World):Prop:=
 ∃ v,B<=b/\w.heap[b]?=some (.cells #[.pointer (some ⟨b,0,none⟩),v] T (0,0))/\w.ownsRow B 5 1 v l.length (Lib.byteCells l)/\v.ownBlock=r/\r≠some b/\(l = []->v = .slice none 0 0)
theorem OW{T:TypeId}(hT:BldT T)(B b:Nat)(r:Option Nat)(l:List UInt8)(w:World)(h:Bld T B b r l w) :
 Calls prog 210 #[.pointer (some ⟨b,0,none⟩)] w λe w'=>e = .returned (.tuple #[])/\Used T B b r l w'/\BS b r w r w':=by
 obtain⟨p,v,hp,hB,hb,ho,hr,hne,hn⟩:=h;have ab:=(eQ.1 hb).1;rcases hp with rfl | rfl
 ·refine (Y9 hT b w (by rw[Lib.cell_of_heap hb];rfl) (by simp[World.shape?,hb]) (Lib.frozen_of_heap hb 0)).mono ?_;rintro e w' ⟨rfl,rfl⟩;refine⟨rfl,⟨v,hB,?_,?_,hr,hne,hn⟩,⟨rfl,rfl,rfl,by simp[World.setCell],λk _ hk _=>wQ _ _ _ _ hk,.inl rfl⟩⟩
  ·simp[World.setCell,Array.getElem?_modify,hb]
  ·exact dS ho (λg hg=>wQ _ _ _ _ (λe=>by rw[hr] at hg;exact hne (by rw[hg];simpa using e)))
 ·refine (Za b w (by rw[Lib.cell_of_heap hb];rfl)).mono ?_;rintro e w' ⟨rfl,rfl⟩;exact⟨rfl,⟨v,hB,hb,ho,hr,hne,hn⟩,BS.refl _ _ _⟩
theorem T8{T:TypeId}(hT:BldT T){B b:Nat}{r:Option Nat}{w1 w2:World}{v v':Value}{l':List UInt8}(hB:B<=b)(aa:w2.heap[b]?=some (.cells #[.pointer (some ⟨b,0,none⟩),v] T (0,0)))
 (ho:w2.ownsRow B 5 1 v' l'.length (Lib.byteCells l')) (ay:w1.heap.size<=w2.heap.size) (sm:∀ k,k<w1.heap.size->k≠b->r≠some k->w2.heap[k]?=w1.heap[k]?) (gZ:w2.os=w1.os/\w2.tape=w1.tape/\w2.output=w1.output)
 (hat:v'.ownBlock=r\/∃ k,w1.heap.size<=k/\v'.ownBlock=some k) (hn:l' = []->v' = .slice none 0 0) :
 Bld T B b v'.ownBlock l' (w2.setCell ⟨b,1,none⟩ v')/\BS b r w1 v'.ownBlock (w2.setCell ⟨b,1,none⟩ v'):=by
 have hne:=aVY ho aa hT.ne;refine⟨⟨_,v',.inr rfl,hB,?_,?_,rfl,hne,hn⟩,⟨gZ.1,gZ.2.1,gZ.2.2,by simpa [World.setCell] using ay,λk hk h1 h2=>(wQ _ _ _ _ h1).trans (sm k hk h1 h2),hat⟩⟩
 ·simp[World.setCell,Array.getElem?_modify,aa]
 ·exact dS ho (λg hg=>wQ _ _ _ _ (λe=>hne (by rw[hg];simpa using e)))
def Dh(T:TypeId)(B b:Nat)(r:Option Nat)(l:List UInt8)(v:Value)(w:World)(e:Ending)(w':World):Prop:=e = .returned v/\∃ r',Bld T B b r' l w'/\BS b r w r' w'
theorem buQ{T:TypeId}(hT:BldT T)(B b:Nat)(r:Option Nat)(l:List UInt8)(c:UInt8)(w:World)(h:Bld T B b r l w)(hl:l.length<=100000000)(fm:B<=w.heap.size) :
 Calls prog 130 #[.pointer (some ⟨b,0,none⟩),.int .u8 c.toNat] w (Dh T B b r (l ++ [c]) .nilIface w):=by
 obtain⟨i0,hi,dP,bF,aO⟩:=info_parts Tryz.infoByte;have H:=jq h;clear h;go_enter func130,ntmps130;go_wp2_with fail;refine (OW hT B b r l _ H.out).mono ?_;rintro e w1 ⟨rfl,⟨v,hB,lX,hown,hr,hne,_⟩,bU⟩;have c1:w1.cell? ⟨b,1,none⟩=some v:=by rw[Lib.cell_of_heap lX];rfl
 have ab:b<w1.heap.size:=(eQ.1 lX).1;have HO:=jq hown;have zZ:=jq lX;have HR:=jq hr;have dU:=jq bU;have uk:=bU.size;clear hown lX hr bU;go_wp2_with (at_builtin;refine wpList_append_own_at _ rfl _ _ 196 rfl B 5 i0 (.int .u8 0) 1 1 underlying196 hi dP bF aO rfl (by decide) _ _ _ rfl (HO.out.alloc _) ⟨w1.heap.size,0,none⟩ 1 1 [.int .u8 c.toNat] rfl rfl (cell_one_new _ _ _) (by simp[Value.oneCell']) (by unfold maxLen;omega) (by omega) (by simp;omega) ?_;intro v' w2 nF B6 E6 hat;have H2:=jq (And.intro nF (And.intro B6 hat));clear nF B6 hat E6;have aa:w2.heap[b]?=some (.cells #[.pointer (some ⟨b,0,none⟩),v] T (0,0)):=(by rw[H2.out.2.1.block b (by simp;omega) (λe=>hne (HR.out.symm.trans e.symm)),Lib.alloc_old w1 _ b ab];exact zZ.out);have d1:w2.cell? ⟨b,1,none⟩=some v:=(by rw[Lib.cell_of_heap aa];rfl);have f1:w2.frozen? ⟨b,1,none⟩=false:=Lib.frozen_of_heap aa 1;have ah:=jq aa;clear aa;obtain⟨ao,cap,rfl⟩:=oN H2.out.1);go_ret;obtain⟨o2,g2,a2⟩:=H2.out;have B2:=T8 hT (r:=r) (w1:=w1) (l':=l ++ [c]) hB ah.out (by simpa [Lib.byteCells] using o2) (by have:=g2.size;simp at this;omega) (λk hk h1 h2=>by rw[g2.block k (by simp;omega) (λe=>h2 (HR.out.symm.trans e.symm)),Lib.alloc_old w1 _ k hk]) ⟨g2.os,g2.tape,g2.output⟩ (by
  rcases a2 with a2 | a2
  ·exact .inl (a2.trans HR.out)
  ·exact .inr ⟨_,by simp,a2⟩) (by simp)
 exact⟨rfl,_,B2.1,dU.out.trans B2.2⟩
theorem Uo{T:TypeId}(hT:BldT T)(B b:Nat)(r:Option Nat)(l:List UInt8)(s:ByteArray)(w:World)(h:Bld T B b r l w)(hl:l.length<=100000000)(hs:s.size<=100000000)(fm:B<=w.heap.size) :
 Calls prog 129 #[.pointer (some ⟨b,0,none⟩),.string s] w (Dh T B b r (l++s.data.toList) (.tuple #[.int .i64 s.size,.nilIface]) w):=by
 obtain⟨i0,hi,dP,bF,aO⟩:=info_parts Tryz.infoByte;have H:=jq h;clear h;go_enter func129,ntmps129;go_wp2_with fail;refine (OW hT B b r l _ H.out).mono ?_;rintro e w1 ⟨rfl,⟨v,hB,lX,hown,hr,hne,E6⟩,bU⟩;have c1:w1.cell? ⟨b,1,none⟩=some v:=by rw[Lib.cell_of_heap lX];rfl
 have ab:b<w1.heap.size:=(eQ.1 lX).1;have HO:=jq hown;have zZ:=jq lX;have HR:=jq hr;have dU:=jq bU;have HN:=jq E6;have uk:=bU.size;clear hown lX hr bU E6;go_wp2_with (at_builtin;refine bsK _ rfl _ _ 196 9 rfl B 5 i0 underlying196 underlying9 hi dP bF aO _ _ _ rfl HO.out s rfl (by unfold maxLen;omega) (by omega) (by omega) ?_;intro v' w2 nF B6 hat wO;have H2:=jq (And.intro nF (And.intro B6 hat));have gk:=jq wO;clear nF B6 hat wO;have aa:w2.heap[b]?=some (.cells #[.pointer (some ⟨b,0,none⟩),v] T (0,0)):=(by rw[H2.out.2.1.block b ab (λe=>hne (HR.out.symm.trans e.symm))];exact zZ.out);have d1:w2.cell? ⟨b,1,none⟩=some v:=(by rw[Lib.cell_of_heap aa];rfl);have f1:w2.frozen? ⟨b,1,none⟩=false:=Lib.frozen_of_heap aa 1;have ah:=jq aa;clear aa;obtain⟨ao,cap,rfl⟩:=oN H2.out.1);go_ret2;obtain⟨o2,g2,a2⟩:=H2.out;have B2:=T8 hT (r:=r) (w1:=w1) (l':=l++s.data.toList) hB ah.out (by simpa [Lib.byteCells,Lib.strCells] using o2) g2.size (λk hk h1 h2=>g2.block k hk (λe=>h2 (HR.out.symm.trans e.symm))) ⟨g2.os,g2.tape,g2.output⟩ (by
  rcases a2 with a2 | a2
  ·exact .inl (a2.trans HR.out)
  ·exact .inr ⟨_,bQ _,a2⟩) (by
  intro h0;have h1:=List.append_eq_nil_iff.1 h0;exact gk.out.2 ⟨HN.out h1.1,by rw[<-bj,h1.2];rfl⟩)
 exact⟨rfl,_,B2.1,dU.out.trans B2.2⟩
def uH(T:TypeId)(B b:Nat)(l:List UInt8)(w:World):Prop:=
 ∃ p v,B<=b/\w.heap[b]?=some (.cells #[p,v] T (0,0))/\((v = .slice none 0 0/\l = [])\/∃ g cap cur fr,v = .slice (some ⟨g,0,none⟩) l.length cap/\l≠[]/\B<=g/\g≠b/\w.heap[g]?=some (.cells cur 5 fr)/\l.length<=cur.size/\l.length<=cap/\l.length<=9223372036854775807/\cur.toList.take l.length=Lib.byteCells l)
theorem Bld.read{T:TypeId}{B b:Nat}{r:Option Nat}{l:List UInt8}{w:World}(h:Bld T B b r l w):uH T B b l w:=by
 obtain⟨p,v,_,hB,hb,ho,hr,hne,hn⟩:=h;refine⟨p,v,hB,hb,?_⟩;by_cases h0:l = []
 ·exact .inl ⟨hn h0,h0⟩
 ·right;rcases ho.2 with ⟨_,h1⟩ | ⟨g,cap,cur,rfl,P3,hg,lu,fW,hcs,ht⟩
  ·exact absurd (rQ h1) h0
  ·refine⟨g,cap,cur,_,rfl,h0,P3,λe=>hne ?_,hg,by omega,lu,by unfold maxLen at fW;omega,by simpa using ht⟩;rw[<-hr,e];rfl
theorem uH.keep{T:TypeId}{B b:Nat}{l:List UInt8}{w w':World}(h:uH T B b l w)(hb:Below w.heap.size w w'):uH T B b l w':=by
 obtain⟨p,v,hB,hh,hv⟩:=h;refine⟨p,v,hB,(hb.block b (eQ.1 hh).1).trans hh,?_⟩;rcases hv with hv | ⟨g,cap,cur,fr,h1,h2,h3,h4,h5,h6⟩
 ·exact .inl hv
 ·exact .inr ⟨g,cap,cur,fr,h1,h2,h3,h4,(hb.block g (eQ.1 h5).1).trans h5,h6⟩
theorem adQ{w:World}{g n k:Nat}(h:k≠g):(w.freeze ⟨g,0,none⟩ n).heap[k]?=w.heap[k]?:=by
 unfold World.freeze;split
 ·rfl
 ·simp only[Array.getElem?_modify];rw[Qc (Ne.symm h)]
theorem acY{w:World}{g n:Nat}{cur:Array Value}{t:TypeId}{fr:Nat×Nat}(h:w.heap[g]?=some (.cells cur t fr)):∃ fr',(w.freeze ⟨g,0,none⟩ n).heap[g]?=some (.cells cur t fr'):=by
 unfold World.freeze;split
 ·exact⟨fr,h⟩
 ·simp only[Array.getElem?_modify,if_true,h];obtain⟨lo,hi⟩:=fr;exact⟨_,rfl⟩
theorem biY{T:TypeId}(B b:Nat)(l:List UInt8)(w:World)(h:uH T B b l w) :
 Calls prog 134 #[.pointer (some ⟨b,0,none⟩)] w λe w'=>e = .returned (aI l)/\uH T B b l w'/\Below B w w':=by
 obtain⟨p,v,hB,hb,hv⟩:=h;rcases hv with ⟨rfl,rfl⟩ | ⟨g,cap,cur,fr,rfl,h0,PA,eD,hg,Kl,BT,kf,ht⟩
 ·have c1:w.drew.cell? ⟨b,1,none⟩=some (.slice none 0 0):=by
   have:w.drew.heap[b]?=some (.cells #[p,.slice none 0 0] T (0,0)):=hb
   rw[Lib.cell_of_heap this];rfl
  have hUS:∀ W q,(Builtin.unsafeString_ #[271,3] 9 #[.pointer q,.int .i64 0]).run prog W = .ok (.string .empty) W:=λW q=>Lib.run_unsafeString_none W _ _ _ q;have el:(Builtin.unsafeSliceData_ #[196] 271 #[.slice none 0 0]).run prog w.drew = .ok (.pointer none) w.drew:=rfl;have HB:=jq hb;clear hb;go_enter func134,ntmps134;go_wp2;go_region
  all_goals (go_wp2;go_ret;exact⟨rfl,⟨p,_,hB,HB.out,.inl ⟨rfl,rfl⟩⟩,(vQ _ _).drew⟩)
 ·have c1:w.drew.cell? ⟨b,1,none⟩=some (.slice (some ⟨g,0,none⟩) l.length cap):=by
   have:w.drew.heap[b]?=some (.cells #[p,.slice (some ⟨g,0,none⟩) l.length cap] T (0,0)):=hb
   rw[Lib.cell_of_heap this];rfl
  have t8:l.length≠0:=by simpa using h0
  have el:(Builtin.unsafeSliceData_ #[196] 271 #[.slice (some ⟨g,0,none⟩) l.length cap]).run prog w.drew = .ok (.pointer (some ⟨g,0,none⟩)) w.drew:=
   Lib.run_unsafeSliceData_row _ _ _ _ _ _ (by omega)
  have hg':w.drew.heap[g]?=some (.cells cur 5 fr):=hg;have hUS:(Builtin.unsafeString_ #[271,3] 9 #[.pointer (some ⟨g,0,none⟩),.int .i64 l.length]).run prog w.drew = .ok (.string ⟨l.toArray⟩) (w.drew.freeze ⟨g,0,none⟩ l.length):=by
   refine Lib.run_unsafeString_row w.drew 271 3 9 5 underlying271 YJ g cur.size (by simp[World.shape?,hg']) l h0 Kl kf ?_;intro j x hx;have mw:(⟨g,0,none⟩:Addr).add j=⟨g,j,none⟩:=by unfold Addr.add;split<;>simp_all
   rw[mw,Lib.cell_of_heap hg'];have h1:(Lib.byteCells l)[j]?=some (.int .u8 x.toNat):=by simp[Lib.byteCells,hx]
   rw[<-ht,List.getElem?_take] at h1;split at h1
   ·simpa using h1
   ·cases h1
  have HF:Hid (uH T B b l (w.drew.freeze ⟨g,0,none⟩ l.length)/\Below B w (w.drew.freeze ⟨g,0,none⟩ l.length)):=by
   obtain⟨fr',fE⟩:=acY (n:=l.length) hg';exact jq ⟨⟨p,_,hB,(adQ (Ne.symm eD)).trans hb,.inr ⟨g,cap,cur,fr',rfl,h0,PA,eD,fE,Kl,BT,kf,ht⟩⟩,Lib.below_freeze (Below.drew (vQ B w)) (p:=⟨g,0,none⟩) PA _⟩
  clear hb hg hg' ht;go_enter func134,ntmps134;go_wp2;go_region
  all_goals (go_wp2;go_ret;exact⟨rfl,HF.out⟩)
def IL(b:Nat)(r:Option Nat)(w:World)(v:Value)(ws:List (List UInt8)):Prop:=
 ∃ A c,v = .slice A ws.length c/\ws.length<=c/\ws.length<=1000000/\∀ i x,ws[i]?=some x->∃ g o,A=some ⟨g,o,none⟩/\g<w.heap.size/\g≠b/\r≠some g/\w.cell? ⟨g,o+i,none⟩=some (aI x)
theorem IL.step{b:Nat}{r r':Option Nat}{w w':World}{v:Value}{ws:List (List UInt8)}(h:IL b r w v ws)(hs:BS b r w r' w'):IL b r' w' v ws:=by
 obtain⟨A,c,h1,h2,h3,h4⟩:=h;refine⟨A,c,h1,h2,h3,λi x hx=>?_⟩;obtain⟨g,o,h5,h6,h7,h8,h9⟩:=h4 i x hx;exact⟨g,o,h5,lQ h6 hs.size,h7,hs.free h6 h8,(hs.cell h6 h7 h8 _).trans h9⟩
theorem Un{T:TypeId}(hT:BldT T)(B b:Nat)(r:Option Nat)(l:List UInt8)(c:UInt8)(k:Int)(hk:(c.toNat:Int)=k)(w:World)(h:Bld T B b r l w)(hl:l.length<=100000000)(fm:B<=w.heap.size) :
 Calls prog 130 #[.pointer (some ⟨b,0,none⟩),.int .u8 k] w (Dh T B b r (l ++ [c]) .nilIface w):=by
 subst hk;exact buQ hT B b r l c w h hl fm
def ij(w:World):Prop:=Lib.TabIs prog w "internal/strconv.uint64pow10" .u64 Lib.pow10Tab
theorem Je:prog.globalNamed "internal/strconv.uint64pow10" = some 1:=by kernel_rfl
theorem ij.lt{w:World}(h:ij w):1<w.heap.size:=by
 unfold ij Lib.TabIs World.var? at h;rw[Je] at h;simp only[Option.bind_some] at h
 cases hh:w.heap[1]? with
 | none=>rw[hh] at h;cases h
 | some o=>exact (eQ.1 hh).1
theorem ij.keepAt{w w':World}{n:Nat}(h:ij w)(hb:Below n w w')(hn:1<n):ij w':=by
 unfold ij Lib.TabIs World.var? at h |-;rw[Je] at h |-;simp only[Option.bind_some] at h |-;rw[hb.block _ hn];exact h
theorem ij.keep{w w':World}(h:ij w)(hb:Below w.heap.size w w'):ij w':=h.keepAt hb h.lt
theorem O6:∀ n:Nat,Lib.decDigits n=Np.nc n:=by
 intro n
 induction n using Nat.strongRecOn with
 | ind n ih=>
  rw[Lib.decDigits,Np.nc];split
  ·rfl
  ·rw[ih (n / 10) (by omega)]
theorem aJX(n:Int)(h0:0<=n)(h1:n<=9223372036854775807)(w:World)(hP:ij w) :
 Calls prog 132 #[.int .i64 n] w (ahZ w.heap.size w (aI (Np.cO n))):=
 (Tryz.strconv_Itoa n (by omega) (by omega) w hP).mono λe w' ⟨he,k,os,hw⟩=>by
   refine⟨?_,?_⟩
   ·rw[he,Lib.itoa,Qc (by omega),O6];rfl
   ·rw[hw];exact Lib.below_grow _ w (bQ _) k os
theorem acQ(n:Int)(h0:0<=n)(h1:n<18446744073709551616)(w:World)(hP:ij w) :
 Calls prog 133 #[.int .u64 n,.int .i64 10] w (ahZ w.heap.size w (aI (Np.cO n))):=by
 obtain⟨u,rfl⟩:∃ u:Nat,n=u:=⟨n.toNat,by omega⟩;refine (acJ u (by omega) w hP).mono λe w' ⟨he,k,os,hw⟩=>⟨?_,?_⟩
 ·rw[he,O6];rfl
 ·rw[hw];exact Lib.below_grow _ w (bQ _) k os
theorem Bq{n:Int}(h1:n<18446744073709551616):(Np.cO n).length<=20:=Np.Zr 19 n.toNat (by omega)
theorem Zy(a b:List (List UInt8)):Np.gr (a++b)=Np.gr a++Np.gr b:=by simp[Np.gr]
theorem Le:∀ (ns:List Int) (s:List UInt8),s++(ns.flatMap λn=>47::Np.cO n) ++ [47]=Np.gr (s::ns.map Np.cO)
 | [],s=>by simp[Np.gr]
 | n::ns,s=>by
   rw[Np.Br,List.map_cons,<-Le ns (Np.cO n)];simp
theorem Td:∀ (ns:List Int) (s:List UInt8),(∀ n∈ns,n<18446744073709551616)->(s++(ns.flatMap λn=>47::Np.cO n) ++ [47]).length<=s.length+1+21 * ns.length
 | [],s,_=>by simp
 | n::ns,s,h=>by
   have:=Td ns s (λm hm=>h m (mQ _ hm))
   have h2:=Bq (h n (by simp));simp at this |-;omega
theorem Eg:BldT 198:=⟨by kernel_rfl,by decide⟩
def kZ(b:Nat)(r:Option Nat)(w:World)(v:Value)(ns:List Int):Prop:=
 ∃ A c,v = .slice A ns.length c/\ns.length<=c/\∀ i x,ns[i]?=some x->∃ g o,A=some ⟨g,o,none⟩/\g<w.heap.size/\g≠b/\r≠some g/\w.cell? ⟨g,o+i,none⟩=some (.int .i64 x)
theorem kZ.step{b:Nat}{r r':Option Nat}{w w':World}{v:Value}{ns:List Int}(h:kZ b r w v ns)(hs:BS b r w r' w'):kZ b r' w' v ns:=by
 obtain⟨A,c,h1,h2,h4⟩:=h;refine⟨A,c,h1,h2,λi x hx=>?_⟩;obtain⟨g,o,h5,h6,h7,h8,h9⟩:=h4 i x hx;exact⟨g,o,h5,lQ h6 hs.size,h7,hs.free h6 h8,(hs.cell h6 h7 h8 _).trans h9⟩
theorem kZ.nil(b:Nat)(r:Option Nat)(w:World):kZ b r w (.slice none 0 0) []:=⟨none,0,rfl,bQ _,λi x h=>by simp at h⟩
def rc(ns:List Int):List UInt8:=ns.flatMap λn=>47::Np.cO n
theorem aUK{ns:List Int}{k:Nat}{x:Int}(hx:ns[k]?=some x):rc (ns.take (k+1))=rc (ns.take k) ++ [47]++Np.cO x:=by
 obtain⟨hl,he⟩:=cQ.1 hx;rw[fQ hl,he];simp[rc]
theorem SF:∀ (ns:List Int),(∀ n∈ns,n<18446744073709551616)->(rc ns).length<=21 * ns.length
 | [],_=>by simp[rc]
 | n::ns,h=>by
   have:=SF ns (λm hm=>h m (mQ _ hm))
   have h2:=Bq (h n (by simp));simp[rc] at this |-;omega
theorem FP(B b:Nat)(r:Option Nat)(l:List UInt8)(s:ByteArray)(v:Value)(ns:List Int)(w:World)(h:Bld 198 B b r l w)(hv:kZ b r w v ns)(hn:∀ n∈ns,0<=n/\n<=9223372036854775807)(hl:l.length<=10000000)(hs:s.size<=100000)(wO:ns.length<=100)(fm:B<=w.heap.size)(hP:ij w)(hPB:1<B) :
 Calls prog 217 #[.string s,v,.pointer (some ⟨b,0,none⟩)] w (Dh 198 B b r (l++Np.gr (s.data.toList::ns.map Np.cO)) (.tuple #[]) w):=by
 have H:=jq h;have HV:=jq hv;have HP:=jq hP;have HN:=jq hn;have gd:=jq h.row.1;have jB:=jq h.row.2.2;obtain⟨A,c,rfl,hc,-⟩:=hv;obtain⟨m,hm⟩:=afZ ns.length;rw[hm] at wO;have HM:=jq hm;have H7:Hid (∀ k,(rc (ns.take k)).length<=2100):=jq (λk=>by
  have h1:=SF (ns.take k) (λn hn'=>by have:=HN.out n (List.mem_of_mem_take hn');omega);rw[List.length_take] at h1;have h2:=HM.out;omega)
 have fw:s.data.toList.length=s.size:=bj s;have pn:=jq fw;clear h hn hP fw;rw[hm] at HV |-;clear hm hc;go_enter func217,ntmps217;go_wp2_with fail;refine (Uo Eg B b r _ s _ H.out (by omega) (by omega) fm).mono ?_;rintro e w1 ⟨rfl,r1,av,bU⟩;have aF:=jq av;have dU:=jq bU;have uk:=bU.size;clear av bU;go_wp2_with fail;go_loopw [11] (λi wr=>∃ (k:Nat) (r':Option Nat),k<=m/\i = .int .i64 k/\Hid (Bld 198 B b r' (l++s.data.toList++rc (ns.take k)) wr)/\Hid (BS b r w r' wr)/\Hid (kZ b r' wr (.slice A m c) ns)) (λi _=>m - (intOf i).toNat)
 case atStart=>exact⟨0,r1,jQ _,rfl,jq (by simpa [rc] using aF.out),dU,jq (HV.out.step dU.out)⟩
 case round=>
  obtain⟨k,r',hk,rfl,HB,HS,HX⟩:=hrel;have ay:=HS.out.size;have fL:Hid (Below B w wr):=jq (HS.out.below gd.out (λk hk=>(jB.out k hk).1) fm);by_cases ab:k<m
  ·obtain⟨x,ae⟩:∃ x,ns[k]?=some x:=⟨_,aQ (by rw[HM.out];exact ab)⟩;obtain⟨A',c',hA,_,bL⟩:=HX.out;simp only[Value.slice.injEq] at hA;obtain⟨rfl,-,rfl⟩:=hA;obtain⟨g,o,rfl,hg,eD,EX,hcell⟩:=bL k _ ae;have HJ:=jq (aUK ae);have RH:=HN.out x (gQ ae);have IE:=jq RH;have hnt:=H7.out k;have bLQ:=H7.out (k+1);clear bL ae RH;go_wp2_with fail;refine (Un Eg B b r' _ 47 47 rfl _ HB.out (by simp;omega) (by omega)).mono ?_;rintro e w2 ⟨rfl,r2,aa,fH⟩;have ah:=jq aa;have fN:=jq fH;have mb:=fH.size;clear aa fH;go_wp2_with fail;refine (aJX x IE.out.1 IE.out.2 w2 (HP.out.keepAt (fL.out.trans (fN.out.below gd.out (λk hk=>(HB.out.row.2.2 k hk).1) (by omega))) hPB)).mono ?_;rintro e w3 ⟨rfl,ai⟩;have aw:=jq (ah.out.keep ai);have pk:=jq (fN.out.after ai);have mE:=ai.size;clear ai;go_wp2_with fail;refine (Uo Eg B b r2 _ ⟨(Np.cO x).toArray⟩ _ aw.out (by simp;omega) (by rw[<-bj];have:=Bq (n:=x) (by have:=IE.out;omega);simp;omega) (by omega)).mono ?_;rintro e w4 ⟨rfl,r4,ar,Rd⟩;have bi:=jq ar;have mU:=jq (pk.out.trans Rd);clear ar Rd;go_wp2_with fail;go_roundw
   case rel=>exact⟨k+1,r4,by omega,by go_num,jq (by have:=bi.out;rw[HJ.out];simpa using this),jq (HS.out.trans mU.out),jq (HX.out.step mU.out)⟩
   ·simp[intOf]<;>omega
  ·have hnt:=H7.out k;have gm:Hid (ns.take k=ns):=jq (kQ (by rw[HM.out];omega));go_wp2_with fail;refine (Un Eg B b r' _ 47 47 rfl _ HB.out (by simp;omega) (by omega)).mono ?_;rintro e w2 ⟨rfl,r2,aa,fH⟩;have ah:=jq aa;have fN:=jq (HS.out.trans fH);clear aa fH;go_wp2_with fail;go_end0;refine⟨rfl,r2,?_,fN.out⟩
   have:=ah.out
   rw[gm.out] at this;rw[<-Le];simpa [rc] using this
theorem kZ.fresh(b:Nat)(r:Option Nat)(W:World)(T:TypeId)(ns:List Int)(hb:b<W.heap.size)(hr:∀ k,r=some k->k<W.heap.size):kZ b r (W.alloc (.cells (ns.map (Value.int .i64)).toArray T)) (.slice (some ⟨W.heap.size,0,none⟩) ns.length ns.length) ns:=by
 refine⟨_,_,rfl,bQ _,λi x hx=>⟨W.heap.size,0,rfl,by simp,by omega,λe=>by have:=hr _ e;omega,?_⟩⟩;rw[World.cell?_alloc_new];simp[hx]
structure KeyS(s:Np.Signed):Prop where
 name:s.set.name.length<=1000
 type:0<=s.set.type/\s.set.type<=1000000000
 life:0<=s.set.life/\s.set.life<=1000000000
 few:s.set.data.length<=100
 data:∀ d∈s.set.data,d.text.length<=1000/\(0<=d.n/\d.n<=1000000000)/\0<=d.m/\d.m<=1000000000
 fewS:s.sigs.length<=100
 sigs:∀ g∈s.sigs,g.zone.length<=1000/\(0<=g.key/\g.key<=1000000000)/\(0<=g.alg/\g.alg<=1000000000)/\(0<=g.frm/\g.frm<=1000000000)/\(0<=g.til/\g.til<=1000000000)/\0<=g.sum/\g.sum<18446744073709551616
def mY(f:List (List UInt8))(d:List Np.Datum):List UInt8:=Np.gr (f++d.flatMap Np.tH)
def mZ(f:List (List UInt8))(g:List Np.Sig):List UInt8:=Np.gr (f++g.flatMap Np.sW)
theorem X8{f:List (List UInt8)}{d:List Np.Datum}{k:Nat}{x:Np.Datum}(hx:d[k]?=some x):mY f (d.take (k+1))=mY f (d.take k)++Np.gr (x.text :: [x.n,x.m].map Np.cO):=by
 obtain⟨hl,he⟩:=cQ.1 hx;rw[fQ hl,he];unfold mY;rw[List.flatMap_append,<-List.append_assoc,Zy];rfl
theorem X9{f:List (List UInt8)}{d:List Np.Sig}{k:Nat}{x:Np.Sig}(hx:d[k]?=some x):mZ f (d.take (k+1))=mZ f (d.take k)++Np.gr (x.zone :: [x.key,x.alg,x.frm,x.til].map Np.cO)++Np.gr (Np.cO x.sum::([]:List Int).map Np.cO):=by
 obtain⟨hl,he⟩:=cQ.1 hx;rw[fQ hl,he];unfold mZ;simp[Np.gr,Np.sW]
theorem Em{s:List UInt8}{ns:List Int}(hs:s.length<=1000)(hn:ns.length<=4)(h:∀ n∈ns,n<=1000000000):(Np.gr (s::ns.map Np.cO)).length<=1900:=by
 have:=Td ns s (λn hm=>by have:=h n hm;omega)
 rw[Le] at this;omega
theorem bkQ(s:ByteArray)(ty life:Int)(dv sv:Value)(d:List Np.Datum)(g:List Np.Sig)(w:World)(hP:ij w)(hK:KeyS ⟨⟨s.data.toList,ty,life,d⟩,g⟩)(hd:SlR ci 3 w w.heap.size dv d)(hg:SlR fi 6 w w.heap.size sv g) :
 Calls prog 139 #[.agg #[.string s,.int .i64 ty,.int .i64 life,dv,sv]] w λe w'=>e = .returned (aI (Np.jm ⟨⟨s.data.toList,ty,life,d⟩,g⟩))/\Below w.heap.size w w':=by
 have HK:=jq hK;have HD:=jq hd;have HG:=jq hg;have HP:=jq hP;have JA:=hP.lt;have Hn:Hid (∀ f,f = [s.data.toList,Np.cO ty,Np.cO life,Np.cO d.length]->mZ (f++d.flatMap Np.tH) g=Np.jm ⟨⟨s.data.toList,ty,life,d⟩,g⟩):=jq (λf hf=>by subst hf;unfold mZ Np.jm Np.Bu;rw[List.append_assoc]);have Dy:Hid (Np.gr (s.data.toList :: [ty,life,(d.length:Int)].map Np.cO)=mY [s.data.toList,Np.cO ty,Np.cO life,Np.cO d.length] []):=jq (by simp[mY]);have ay:s.size<=1000:=by have:=hK.name;rw[<-bj];exact this
 have ES:d.length<=100:=hK.few;have EW:g.length<=100:=hK.fewS;obtain⟨A1,c1,rfl,_,_⟩:=ak hd;obtain⟨A2,c2,rfl,_,_⟩:=ak hg;obtain⟨n1,bE⟩:=afZ d.length;obtain⟨n2,bS⟩:=afZ g.length;rw[bE] at HD Hn Dy ES |-;rw[bS] at HG EW |-;have ii:=jq bE;have lK:=jq bS;clear bE bS hd hg hK hP;obtain⟨f0,oB⟩:∃ f0,[s.data.toList,Np.cO ty,Np.cO life,Np.cO n1]=f0:=⟨_,rfl⟩;have pb:=jq (Hn.out f0 oB.symm);rw[oB] at Dy;clear oB Hn;obtain⟨X,hX⟩:=afZ w.heap.size;obtain⟨Y,hY⟩:=afZ (X+1);obtain⟨W0,dz⟩:=afZ (w.alloc (.cells #[.string s,.int .i64 ty,.int .i64 life,.slice A1 n1 c1,.slice A2 n2 c2] 42));have dP:W0.heap.size=Y:=by rw[<-dz,<-hY,<-hX];simp
 obtain⟨W1,aB⟩:=afZ (W0.alloc (.cells #[.pointer none,.slice none 0 0] 198));have dm:Below X w W0:=by rw[<-dz];exact (vQ _ _).alloc (Nat.le_of_eq hX.symm) _
 have av:Below Y W0 W1:=by rw[<-aB];exact (vQ _ _).alloc (Nat.le_of_eq dP.symm) _
 have bF:W1.heap.size=Y+1:=by rw[<-aB,<-dP];simp
 have UG:Hid (Bld 198 Y Y none [] W1):=jq (by rw[<-aB,<-dP];exact Bld.fresh _ _);have k0:W1.cell? ⟨X,0,none⟩=some (.string s):=aeK av (by rw[<-dz,<-hX];simp[go_sem]);have k1:W1.cell? ⟨X,1,none⟩=some (.int .i64 ty):=aeK av (by rw[<-dz,<-hX];simp[go_sem]);have k2:W1.cell? ⟨X,2,none⟩=some (.int .i64 life):=aeK av (by rw[<-dz,<-hX];simp[go_sem]);have k3:W1.cell? ⟨X,3,none⟩=some (.slice A1 n1 c1):=aeK av (by rw[<-dz,<-hX];simp[go_sem]);have k4:W1.cell? ⟨X,4,none⟩=some (.slice A2 n2 c2):=aeK av (by rw[<-dz,<-hX];simp[go_sem]);obtain⟨W2,aU⟩:=afZ (W1.alloc (.cells #[.int .i64 ty,.int .i64 life,.int .i64 (n1:Int)] 3));have aa:Below W1.heap.size W1 W2:=by rw[<-aU];exact blAl
 have DL:Hid (kZ Y none W2 (.slice (some ⟨Y+1,0,none⟩) 3 3) [ty,life,(n1:Int)]):=jq (by rw[<-aU,<-bF];exact kZ.fresh Y none W1 _ [ty,life,(n1:Int)] (by omega) (λk h=>by cases h));have aS:Hid (Below Y W0 W2):=jq (av.trans (aa.afK));have aH:=jq dm;have lE:=jq aa;have JH:X<W1.heap.size:=by omega
 have hYl:Y<W1.heap.size:=by omega
 clear dm av aa;rw[hX] at HD HG JA |-;go_enter func139,ntmps139;go_wp2_with fail;have aO:Y+1<=W2.heap.size:=by have:=lE.out.size;omega
 have j3:=aeK lE.out k3;have j4:=aeK lE.out k4;have vl:Hid (ij W2):=jq (HP.out.keepAt (aH.out.trans (aS.out.afK)) (by omega));clear k0 k1 k2 k3 k4 dz aB aU hX JH hYl;have AQ:Hid (∀ n∈[ty,life,(n1:Int)],0<=n/\n<=1000000000):=jq (λn hn=>by
  have h1:=HK.out.type;have h2:=HK.out.life;dsimp only at h1 h2;simp only[List.mem_cons,Qh,or_false] at hn;rcases hn with rfl | rfl | rfl<;>omega)
 refine (FP Y Y none [] s _ _ W2 (UG.out.keep lE.out) DL.out (λn hn=>by have:=AQ.out n hn;omega) (by simp) (by omega) (by simp) (by omega) vl.out (by omega)).mono ?_;rintro e w3 ⟨rfl,r3,qT,fI⟩;rw[Dy.out] at qT;have ai:Below Y W2 w3:=fI.below (bQ _) (λk h=>by cases h) (by omega);have AA:Hid (Bld 198 Y Y r3 (mY f0 []) w3):=jq (by simpa using qT);have dR:=ai.size;have i3:=aeK ai j3;have i4:=aeK ai j4;have aw:Hid (Below X w w3):=jq (aH.out.trans ((aS.out.trans ai).afK));have oZ:Hid ((mY f0 []).length<=2000):=jq (by
  rw[<-Dy.out]
  have:=Em (s:=s.data.toList) (ns:=[ty,life,(n1:Int)]) HK.out.name (by simp) (λn hn=>(AQ.out n hn).2)
  omega)
 clear qT fI ai j3 j4;go_wp2_with fail;go_loopw [30] (λi wr=>∃ (k:Nat) (r:Option Nat),k<=n1/\i = .int .i64 k/\Y+1<=wr.heap.size/\Hid (Bld 198 Y Y r (mY f0 (d.take k)) wr)/\Hid (Below Y w3 wr)/\Hid ((mY f0 (d.take k)).length<=2000 * (k+1))) (λi _=>n1 - (intOf i).toNat)
 case atStart=>exact⟨0,r3,jQ _,rfl,by omega,by simpa using AA,jq (vQ _ _),by simpa using oZ⟩
 case round=>
  obtain⟨k,r,hk,rfl,PW,HL,bp,HA⟩:=hrel;have HB:=aeX aw bp.out;have q3:=aeK bp.out i3;have q4:=aeK bp.out i4;by_cases ab:k<n1
  ·obtain⟨x,ae⟩:∃ x,d[k]?=some x:=⟨_,aQ (by rw[ii.out];exact ab)⟩;obtain⟨b,o,c',t,hA,bZ,_,ht,CH,g0,g1,g2⟩:=El (HD.out.keep cJ HB.out) ae;simp only[Value.slice.injEq] at hA;obtain⟨rfl,-,rfl⟩:=hA;have HT:=jq (X8 (f:=f0) ae);have HX:=jq (HK.out.data x (gQ ae));have AR:=jq ht;have ul:t.size<=1000:=by rw[<-bj,ht];exact HX.out.1
   clear ae ht CH;have cj:(0:Int)<=(k:Int):=by omega
   have ck:(k:Int)<(n1:Int):=by omega
   obtain⟨w4,cG⟩:=afZ (wr.alloc (.cells #[.string t,.int .i64 x.n,.int .i64 x.m] 128));have fz:w4.heap.size=wr.heap.size+1:=by rw[<-cG];simp
   have ar:Below wr.heap.size wr w4:=by rw[<-cG];exact blAl
   have p0:w4.cell? ⟨wr.heap.size,0,none⟩=some (.string t):=by rw[<-cG];simp[go_sem]
   have p1:w4.cell? ⟨wr.heap.size,1,none⟩=some (.int .i64 x.n):=by rw[<-cG];simp[go_sem]
   have p2:w4.cell? ⟨wr.heap.size,2,none⟩=some (.int .i64 x.m):=by rw[<-cG];simp[go_sem]
   obtain⟨w5,aK⟩:=afZ (w4.alloc (.cells #[.int .i64 x.n,.int .i64 x.m] 3));have aG:Below w4.heap.size w4 w5:=by rw[<-aK];exact blAl
   have pG:Below wr.heap.size wr w5:=ar.trans (aG.afK);have H0:Hid (kZ Y r w5 (.slice (some ⟨wr.heap.size+1,0,none⟩) 2 2) [x.n,x.m]):=jq (by rw[<-aK,<-fz];exact kZ.fresh Y r w4 _ [x.n,x.m] (by omega) (λk h=>by have:=(HL.out.row.2.2 k h).2;omega));have tn:=jq (HL.out.keep pG);have yl:Hid (ij w5):=jq (HP.out.keepAt (HB.out.trans (pG.afK)) JA);have lB:=pG.size;have xM:=jq pG;clear ar aG pG;go_wp2_with fail;clear cG aK p0 p1 p2;refine (FP Y Y r _ t _ _ w5 tn.out H0.out (λn hn=>by
    have h1:=HX.out.2;simp only[List.mem_cons,Qh,or_false] at hn;rcases hn with rfl | rfl<;>omega) (by have:=HA.out;omega) (by omega) (by simp) (by omega) yl.out (by omega)).mono ?_
   rw[AR.out,<-HT.out];rintro e w6 ⟨rfl,r6,Cd,xa⟩;have aT:Below Y w5 w6:=xa.below (bQ _) (λk h=>(tn.out.row.2.2 k h).1) (by omega);have H6:=jq (And.intro Cd (bp.out.trans ((xM.out.afK).trans aT)));have eX:=aT.size;have ju:Hid ((mY f0 (d.take (k+1))).length<=2000 * (k+1+1)):=jq (by
    rw[HT.out,List.length_append]
    have:=HA.out
    have:=Em (s:=x.text) (ns:=[x.n,x.m]) HX.out.1 (by simp) (λn hn=>by
     have h1:=HX.out.2;simp only[List.mem_cons,Qh,or_false] at hn;rcases hn with rfl | rfl<;>omega)
    omega)
   clear Cd xa aT;go_wp2_with fail;go_roundw
   case rel=>exact⟨k+1,r6,by omega,by go_num,by omega,jq H6.out.1,jq H6.out.2,ju⟩
   ·simp[intOf]<;>omega
  ·have gm:Hid (d.take k=d):=jq (kQ (by rw[ii.out];omega));have xL:Hid ((mY f0 d).length<=202000):=jq (by have:=HA.out;rw[gm.out] at this;omega);rw[gm.out] at HL;go_wp2_with fail;clear ab hk;obtain⟨wo,rfl⟩:=afJ wr;obtain⟨f1,tV⟩:=afZ (f0++d.flatMap Np.tH);have rx:=jq pb.out;rw[tV] at rx;have Wg:Hid (Bld 198 Y Y r (mZ f1 []) wo):=jq (by have:=HL.out;unfold mY at this;rw[tV] at this;simpa [mZ] using this);have HAS:Hid ((mZ f1 []).length<=202000):=jq (by have:=xL.out;unfold mY at this;rw[tV] at this;simpa [mZ] using this);clear tV;go_loopw [47] (λi wr=>∃ (k:Nat) (r:Option Nat),k<=n2/\i = .int .i64 k/\Y+1<=wr.heap.size/\Hid (Bld 198 Y Y r (mZ f1 (g.take k)) wr)/\Hid (Below Y wo wr)/\Hid ((mZ f1 (g.take k)).length<=202000+4000 * k)) (λi _=>n2 - (intOf i).toNat)
   case atStart=>exact⟨0,r,jQ _,rfl,by omega,by simpa using Wg,jq (vQ _ _),by simpa using HAS⟩
   case round=>
    obtain⟨k,r,hk,rfl,PW,HL,GT,HA⟩:=hrel;have HC:=aeX HB GT.out;have s4:=aeK GT.out q4;by_cases ab:k<n2
    ·obtain⟨x,ae⟩:∃ x,g[k]?=some x:=⟨_,aQ (by rw[lK.out];exact ab)⟩;obtain⟨b,o,c',t,hA,bZ,ht,CH,g0,g1,g2,g3,g4,g5⟩:=sX (HG.out.keep eL HC.out) ae;simp only[Value.slice.injEq] at hA;obtain⟨rfl,-,rfl⟩:=hA;have HT:=jq (X9 (f:=f1) ae);have HX:=jq (HK.out.sigs x (gQ ae));have AR:=jq ht;have ul:t.size<=1000:=by rw[<-bj,ht];exact HX.out.1
     clear ae ht CH;have cj:(0:Int)<=(k:Int):=by omega
     have ck:(k:Int)<(n2:Int):=by omega
     have vB:Hid (∀ n∈[x.key,x.alg,x.frm,x.til],0<=n/\n<=1000000000):=jq (λn hn=>by
      have h1:=HX.out.2;simp only[List.mem_cons,Qh,or_false] at hn;rcases hn with rfl | rfl | rfl | rfl<;>omega)
     obtain⟨w4,cG⟩:=afZ (wr.alloc (.cells #[.string t,.int .i64 x.key,.int .i64 x.alg,.int .i64 x.frm,.int .i64 x.til,.int .u64 x.sum] 50));have fz:w4.heap.size=wr.heap.size+1:=by rw[<-cG];simp
     have ar:Below wr.heap.size wr w4:=by rw[<-cG];exact blAl
     obtain⟨p0,p1,p2,p3,p4,p5⟩:=cRow6 w4 (wr.heap.size) (.string t) (.int .i64 x.key) (.int .i64 x.alg) (.int .i64 x.frm) (.int .i64 x.til) (.int .u64 x.sum) (by rw[<-cG];simp[go_sem]);obtain⟨w5,aK⟩:=afZ (w4.alloc (.cells #[.int .i64 x.key,.int .i64 x.alg,.int .i64 x.frm,.int .i64 x.til] 3));have aG:Below w4.heap.size w4 w5:=by rw[<-aK];exact blAl
     have pG:Below wr.heap.size wr w5:=ar.trans (aG.afK);have H0:Hid (kZ Y r w5 (.slice (some ⟨wr.heap.size+1,0,none⟩) 4 4) [x.key,x.alg,x.frm,x.til]):=jq (by rw[<-aK,<-fz];exact kZ.fresh Y r w4 _ [x.key,x.alg,x.frm,x.til] (by omega) (λk h=>by have:=(HL.out.row.2.2 k h).2;omega));have o5:=aeK aG p5;have jB:Hid (∀ k,r=some k->k<wr.heap.size):=jq (λk h=>(HL.out.row.2.2 k h).2);have tn:=jq (HL.out.keep pG);have yl:Hid (ij w5):=jq (HP.out.keepAt (HC.out.trans (pG.afK)) JA);have lB:=pG.size;have KY:=aG.size;have xM:=jq pG;clear ar aG pG;go_wp2_with fail;clear cG aK p0 p1 p2 p3 p4 p5;refine (FP Y Y r _ t _ _ w5 tn.out H0.out (λn hn=>by have:=vB.out n hn;omega) (by have:=HA.out;omega) (by omega) (by simp) (by omega) yl.out (by omega)).mono ?_;rw[AR.out];rintro e w6 ⟨rfl,r6,Cd,xa⟩;have aT:Below Y w5 w6:=xa.below (bQ _) (λk h=>(tn.out.row.2.2 k h).1) (by omega);have ML:Hid ((Np.gr (x.zone :: [x.key,x.alg,x.frm,x.til].map Np.cO)).length<=1900):=jq (Em HX.out.1 (by simp) (λn hn=>(vB.out n hn).2));have t5:=(xa.cell (k:=wr.heap.size) (by omega) (by omega) (λe=>by have:=jB.out _ e;omega) 5).trans o5;have Wd:=jq Cd;have akJ:=jq (GT.out.trans ((xM.out.afK).trans aT));have eX:=aT.size;have Nt:Hid (ij w6):=jq (yl.out.keepAt aT (by omega));clear Cd xa aT o5;go_wp2_with fail;refine (acQ x.sum HX.out.2.2.2.2.2.1 HX.out.2.2.2.2.2.2 w6 Nt.out).mono ?_;rintro e w7 ⟨rfl,dp⟩;have mG:=dp.size;have tp:=jq (Wd.out.keep dp);have WD:=jq (Nt.out.keep dp);have cZ:=aeX akJ dp;have pn:Hid ((⟨(Np.cO x.sum).toArray⟩:ByteArray).size<=100):=jq (by rw[<-bj];have:=Bq HX.out.2.2.2.2.2.2;simp;omega);clear dp t5;go_wp2_with fail;refine (FP Y Y r6 _ ⟨(Np.cO x.sum).toArray⟩ _ [] w7 tp.out (kZ.nil _ _ _) (λn hn=>by cases hn) (by have:=HA.out;have:=ML.out;rw[List.length_append];omega) (by have:=pn.out;omega) (by simp) (by omega) WD.out (by omega)).mono ?_;rintro e w8 ⟨rfl,r8,Kk,Re⟩;have fU:Below Y w7 w8:=Re.below (bQ _) (λk h=>(tp.out.row.2.2 k h).1) (by omega);have p6:=fU.size;have H8:Hid (Bld 198 Y Y r8 (mZ f1 (g.take (k+1))) w8/\Below Y wo w8):=jq ⟨by rw[HT.out];simpa using Kk,cZ.out.trans fU⟩;have zY:Hid ((mZ f1 (g.take (k+1))).length<=202000+4000 * (k+1)):=jq (by
      rw[HT.out,List.length_append,List.length_append]
      have:=HA.out
      have:=ML.out
      have:=Em (s:=Np.cO x.sum) (ns:=[]) (by have:=Bq HX.out.2.2.2.2.2.2;omega) (by simp) (λn hn=>by cases hn)
      omega)
     clear Kk Re fU;go_wp2_with fail;go_roundw
     case rel=>exact⟨k+1,r8,by omega,by go_num,by omega,jq H8.out.1,jq H8.out.2,zY⟩
     ·simp[intOf]<;>omega
    ·have gm:Hid (g.take k=g):=jq (kQ (by rw[lK.out];omega));rw[gm.out] at HL;go_wp2_with fail;refine (biY Y Y _ wr HL.out.read).mono ?_;rw[rx.out];rintro e w9 ⟨rfl,_,cS⟩;have eN:=aeX HC cS;clear cS;go_wp2_with fail;go_ret;exact⟨rfl,eN.out⟩
end
end Go.Proofs.YtfnopgdcaanaiaaGreatDoor
