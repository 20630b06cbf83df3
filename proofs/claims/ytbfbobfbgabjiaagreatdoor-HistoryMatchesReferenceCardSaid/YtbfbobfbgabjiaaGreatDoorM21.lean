/- Parts of the proof. No condition. -/
import Derived.Lib.Builder
import Derived.Lib.UnsafeStr
import Derived.Laws.Externs
import Derived.Laws.EntriesVeiled
import Derived.RegionTactic
import Derived.Shelf.Strings.Builder1
import Derived.Shelf.Strings.Builder2
import Derived.Shelf.Strings.OnBuilder
import Derived.Shelf.Small.Bits
import Derived.Shelf.Small.Strs
import Derived.Shelf.Strconv.Itoa0
import Derived.Shelf.Strconv.Itoa1
import Derived.Shelf.LaysM
import Derived.Shelf.Strconv.Itoa2
import Derived.Shelf.Strconv.Itoa3
import Derived.Shelf.Strings.Search1
import Derived.Shelf.Strings.LastIndex
import Derived.Shelf.Strings.Prefix
import Derived.Ground.SlsfProg
import Derived.Shelf.SlSortCmp.Insertion
import Derived.Shelf.SlSortCmp.SiftDown1
import Derived.Shelf.SlSortCmp.HeapSort1
import Derived.Shelf.SlSortCmp.Insertion1
import Derived.Shelf.SlSortCmp.Median1
import Derived.Shelf.SlSortCmp.Pivot1
import Derived.Shelf.SlSortCmp.ReverseRange1
import Derived.Shelf.SlSortCmp.PartialInsertion1
import Derived.Shelf.SlSortCmp.PartitionEqual1
import Derived.Shelf.SlSortCmp.Partition1
import Derived.Shelf.SlSortCmp.Pdq1
import Derived.Shelf.SlSortCmp.Whole1
import Derived.Shelf.SlSortCmp.NoneTotal
import Derived.Test.YtbfbobfbgabjiaaGreatDoorProg
import Derived.Lib.AppendIntMem
import Derived.Test.YtbfbobfbgabjiaaGreatDoorM20
set_option linter.all false
set_option maxRecDepth 100000
set_option maxHeartbeats 8000000
namespace Go.Proofs.YtbfbobfbgabjiaaGreatDoor
open Go.Proofs.Tryz
section
open Go.RowKit
structure BldT(T:TypeId):Prop where
 lies:liesAt prog prog.depth T (2 / prog.cellsOf T) 0 171 1=true
 ne:T≠5
def Bld(T:TypeId)(B b:Nat)(r:Option Nat)(l:List UInt8)(w:World):Prop:=
 ∃ p v,(p = .pointer none\/p = .pointer (some ⟨b,0,none⟩))/\B<=b/\w.heap[b]?=some (.cells #[p,v] T (0,0))/\w.ownsRow B 5 1 v l.length (Lib.byteCells l)/\v.ownBlock=r/\r≠some b/\(l = []->v = .slice none 0 0)
structure BS(b:Nat)(r:Option Nat)(w:World)(r':Option Nat)(w':World):Prop where
 os:w'.os=w.os
 tape:w'.tape=w.tape
 output:w'.output=w.output
 size:w.heap.size<=w'.heap.size
 keep:∀ k,k<w.heap.size->k≠b->r≠some k->w'.heap[k]?=w.heap[k]?
 at_:r'=r\/∃ k,w.heap.size<=k/\r'=some k
theorem BS.refl(b:Nat)(r:Option Nat)(w:World):BS b r w r w:=⟨rfl,rfl,rfl,bQ _,λ_ _ _ _=>rfl,.inl rfl⟩
theorem BS.trans{b:Nat}{r r' r'':Option Nat}{w w' w'':World}(h:BS b r w r' w')(k:BS b r' w' r'' w''):BS b r w r'' w'':=by
 refine⟨k.os.trans h.os,k.tape.trans h.tape,k.output.trans h.output,yQ h.size k.size,λi hi hb hr=>?_,?_⟩
 ·refine (k.keep i (lQ hi h.size) hb (λe=>?_)).trans (h.keep i hi hb hr);rcases h.at_ with e' | ⟨j,hj,e'⟩
  ·rw[e'] at e; exact hr e
  ·rw[e'] at e; simp at e; omega
 ·rcases k.at_ with e | ⟨j,hj,e⟩
  ·rcases h.at_ with e' | ⟨j,hj,e'⟩
   ·exact .inl (e.trans e')
   ·exact .inr ⟨j,hj,e.trans e'⟩
  ·exact .inr ⟨j,yQ h.size hj,e⟩
theorem BS.of_below{b:Nat}{r:Option Nat}{w w':World}(h:Below w.heap.size w w'):BS b r w r w':=⟨h.os,h.tape,h.output,h.size,λk hk _ _=>h.block k hk,.inl rfl⟩
theorem BS.after{b:Nat}{r r':Option Nat}{w w' w'':World}(h:BS b r w r' w')(k:Below w'.heap.size w' w''):BS b r w r' w'':=h.trans (BS.of_below k)
theorem BS.below{b:Nat}{r r':Option Nat}{w w':World}{n:Nat}(h:BS b r w r' w')(hb:n<=b)(hr:∀ k,r=some k->n<=k)(hn:n<=w.heap.size):Below n w w':=
 ⟨h.os,h.tape,h.output,h.size,λk hk=>h.keep k (by omega) (by omega) (λe=>by have:=hr k e; omega)⟩
theorem BS.cell{b:Nat}{r r':Option Nat}{w w':World}(h:BS b r w r' w'){k:Nat}(hk:k<w.heap.size)(hb:k≠b)(hr:r≠some k)(o:Nat):w'.cell? ⟨k,o,none⟩=w.cell? ⟨k,o,none⟩:=iQ (w:=w) (h.keep k hk hb hr)
theorem BS.free{b:Nat}{r r':Option Nat}{w w':World}(h:BS b r w r' w'){k:Nat}(hk:k<w.heap.size)(hr:r≠some k):r'≠some k:=λe=>by
 rcases h.at_ with e' | ⟨j,hj,e'⟩
 ·rw[e'] at e; exact hr e
 ·rw[e'] at e; simp at e; omega
theorem Bld.row{T:TypeId}{B b:Nat}{r:Option Nat}{l:List UInt8}{w:World}(h:Bld T B b r l w):B<=b/\b<w.heap.size/\∀ k,r=some k->B<=k/\k<w.heap.size:=by
 obtain⟨p,v,_,hB,hb,ho,rfl,_,_⟩:=h;exact⟨hB,(eQ.1 hb).1,λk hk=>ho.lt k hk⟩
theorem Bld.keep{T:TypeId}{B b:Nat}{r:Option Nat}{l:List UInt8}{w w':World}(h:Bld T B b r l w)(hb:Below w.heap.size w w'):Bld T B b r l w':=by
 have hrow:=h.row;obtain⟨p,v,hp,hB,hh,ho,rfl,hne,hn⟩:=h;refine⟨p,v,hp,hB,(hb.block b hrow.2.1).trans hh,fL ho (λg hg=>hb.block g (hrow.2.2 g hg).2),rfl,hne,hn⟩
theorem Bld.fresh(T:TypeId)(w:World):Bld T w.heap.size w.heap.size none [] (w.alloc (.cells #[.pointer none,.slice none 0 0] T)):=
 ⟨_,_,.inl rfl,bQ _,heap_alloc_new w _,World.ownsRow_nil _ _ _ _,rfl,by simp,λ_=>rfl⟩
theorem UL{w:World}{base:Nat}{e T:TypeId}{v:Value}{n:Nat}{xs:List Value}{b:Nat}{cs:Array Value}{fr:Nat×Nat}(ho:w.ownsRow base e 1 v n xs)(hb:w.heap[b]?=some (.cells cs T fr))(hT:T≠e):v.ownBlock≠some b:=by
 intro h;rcases ho.2 with ⟨rfl,_⟩ | ⟨g,cap,cur,rfl,_,hg,_⟩
 ·cases h
 ·have:g=b:=Option.some.inj h
  subst this;rw[hb] at hg;simp only[Option.some.injEq,Obj.cells.injEq] at hg;exact hT hg.2.1
theorem W7:prog.cellsOf 5=1:=by kernel_rfl
theorem MC:(prog.info? 171).map (·.size)=some 2:=by kernel_rfl
theorem TW(b:Nat)(w:World)(h0:w.cell? ⟨b,0,none⟩=some (.pointer (some ⟨b,0,none⟩))) :
 Calls prog 188 #[.pointer (some ⟨b,0,none⟩)] w λe w'=>e = .returned (.tuple #[])/\w'=w:=by
 obtain⟨j,hj,_⟩:=Option.map_eq_some_iff.1 MC;go_enter func188,ntmps188;go_wp2;rw[Lib.run_neq_ptr_same w _ underlying168 hj];go_wp2;go_end0;exact⟨rfl,rfl⟩
theorem TE{T:TypeId}(hT:BldT T)(b:Nat)(w:World)(h0:w.cell? ⟨b,0,none⟩=some (.pointer none))(Sn:w.shape? b=some (T,2))(sT:w.frozen? ⟨b,0,none⟩=false) :
 Calls prog 188 #[.pointer (some ⟨b,0,none⟩)] w λe w'=>e = .returned (.tuple #[])/\w'=w.setCell ⟨b,0,none⟩ (.pointer (some ⟨b,0,none⟩)):=by
 obtain⟨j,hj,Cf⟩:=Option.map_eq_some_iff.1 MC;go_enter func188,ntmps188;go_wp2;rw[Lib.run_to_unsafe w ⟨b,0,none⟩ underlying168 underlying262 hj (by rw[Cf]; decide) Sn (Nat.zero_lt_succ 1)];simp only[Result.andThen];rw[Oper.upon_value];go_wp2;rw[run_callFunc_extern func231 (by kernel_rfl) (by kernel_rfl) (by kernel_rfl) (e:=Extern.AbiNoEscape.same) (by kernel_rfl)];rw[Lib.run_noEscape];simp only[Result.andThen];rw[Oper.upon_value];go_wp2;rw[Lib.run_from_unsafe w ⟨b,0,none⟩ underlying262 underlying168 hj Sn hT.lies];simp only[Result.andThen];rw[Oper.upon_value];go_wp2;go_end0;exact⟨rfl,rfl⟩
def Used(T:TypeId)(B b:Nat)(r:Option Nat)(l:List UInt8)(w:World):Prop:=
 ∃ v,B<=b/\w.heap[b]?=some (.cells #[.pointer (some ⟨b,0,none⟩),v] T (0,0))/\w.ownsRow B 5 1 v l.length (Lib.byteCells l)/\v.ownBlock=r/\r≠some b/\(l = []->v = .slice none 0 0)
theorem L7{T:TypeId}(hT:BldT T)(B b:Nat)(r:Option Nat)(l:List UInt8)(w:World)(h:Bld T B b r l w) :
 Calls prog 188 #[.pointer (some ⟨b,0,none⟩)] w λe w'=>e = .returned (.tuple #[])/\Used T B b r l w'/\BS b r w r w':=by
 obtain⟨p,v,hp,hB,hb,ho,hr,hne,hn⟩:=h;have ab:=(eQ.1 hb).1;rcases hp with rfl | rfl
 ·refine (TE hT b w (by rw[Lib.cell_of_heap hb]; rfl) (by simp[World.shape?,hb]) (Lib.frozen_of_heap hb 0)).mono ?_;rintro e w' ⟨rfl,rfl⟩;refine⟨rfl,⟨v,hB,?_,?_,hr,hne,hn⟩,⟨rfl,rfl,rfl,by simp[World.setCell],λk _ hk _=>wQ _ _ _ _ hk,.inl rfl⟩⟩
  ·simp[World.setCell,Array.getElem?_modify,hb]
  ·exact fL ho (λg hg=>wQ _ _ _ _ (λe=>by rw[hr] at hg; exact hne (by rw[hg]; simpa using e)))
 ·refine (TW b w (by rw[Lib.cell_of_heap hb]; rfl)).mono ?_;rintro e w' ⟨rfl,rfl⟩;exact⟨rfl,⟨v,hB,hb,ho,hr,hne,hn⟩,BS.refl _ _ _⟩
theorem On{T:TypeId}(hT:BldT T){B b:Nat}{r:Option Nat}{w1 w2:World}{v v':Value}{l':List UInt8}(hB:B<=b)(aa:w2.heap[b]?=some (.cells #[.pointer (some ⟨b,0,none⟩),v] T (0,0)))
 (ho:w2.ownsRow B 5 1 v' l'.length (Lib.byteCells l')) (an:w1.heap.size<=w2.heap.size) (sV:∀ k,k<w1.heap.size->k≠b->r≠some k->w2.heap[k]?=w1.heap[k]?) (iS:w2.os=w1.os/\w2.tape=w1.tape/\w2.output=w1.output)
 (hat:v'.ownBlock=r\/∃ k,w1.heap.size<=k/\v'.ownBlock=some k) (hn:l' = []->v' = .slice none 0 0) :
 Bld T B b v'.ownBlock l' (w2.setCell ⟨b,1,none⟩ v')/\BS b r w1 v'.ownBlock (w2.setCell ⟨b,1,none⟩ v'):=by
 have hne:=UL ho aa hT.ne;refine⟨⟨_,v',.inr rfl,hB,?_,?_,rfl,hne,hn⟩,⟨iS.1,iS.2.1,iS.2.2,by simpa [World.setCell] using an,λk hk h1 h2=>(wQ _ _ _ _ h1).trans (sV k hk h1 h2),hat⟩⟩
 ·simp[World.setCell,Array.getElem?_modify,aa]
 ·exact fL ho (λg hg=>wQ _ _ _ _ (λe=>hne (by rw[hg]; simpa using e)))
def DT(T:TypeId)(B b:Nat)(r:Option Nat)(l:List UInt8)(v:Value)(w:World)(e:Ending)(w':World):Prop:=e = .returned v/\∃ r',Bld T B b r' l w'/\BS b r w r' w'
theorem TY{T:TypeId}(hT:BldT T)(B b:Nat)(r:Option Nat)(l:List UInt8)(c:UInt8)(w:World)(h:Bld T B b r l w)(hl:l.length<=100000000)(jz:B<=w.heap.size) :
 Calls prog 119 #[.pointer (some ⟨b,0,none⟩),.int .u8 c.toNat] w (DT T B b r (l ++ [c]) .nilIface w):=by
 obtain⟨i0,hi,ea,bI,aN⟩:=info_parts Tryz.infoByte;have H:=jq h;clear h;go_enter func119,ntmps119;go_wp2_with fail;refine (L7 hT B b r l _ H.out).mono ?_;rintro e w1 ⟨rfl,⟨v,hB,sW,hown,hr,hne,_⟩,aZ⟩;have c1:w1.cell? ⟨b,1,none⟩=some v:=by rw[Lib.cell_of_heap sW]; rfl
 have ab:b<w1.heap.size:=(eQ.1 sW).1;have HO:=jq hown;have Cw:=jq sW;have HR:=jq hr;have ic:=jq aZ;have sh:=aZ.size;clear hown sW hr aZ;go_wp2_with (at_builtin; refine wpList_append_own_at _ rfl _ _ 169 rfl B 5 i0 (.int .u8 0) 1 1 underlying169 hi ea bI aN rfl (by decide) _ _ _ rfl (HO.out.alloc _) ⟨w1.heap.size,0,none⟩ 1 1 [.int .u8 c.toNat] rfl rfl (cell_one_new _ _ _) (by simp[Value.oneCell']) (by unfold maxLen; omega) (by omega) (by simp; omega) ?_; intro v' w2 qa CF Fg hat; have H2:=jq (And.intro qa (And.intro CF hat)); clear qa CF hat Fg; have aa:w2.heap[b]?=some (.cells #[.pointer (some ⟨b,0,none⟩),v] T (0,0)):=(by rw[H2.out.2.1.block b (by simp; omega) (λe=>hne (HR.out.symm.trans e.symm)),Lib.alloc_old w1 _ b ab]; exact Cw.out); have d1:w2.cell? ⟨b,1,none⟩=some v:=(by rw[Lib.cell_of_heap aa]; rfl); have f1:w2.frozen? ⟨b,1,none⟩=false:=Lib.frozen_of_heap aa 1; have ak:=jq aa; clear aa; obtain⟨ao,cap,rfl⟩:=xX H2.out.1);go_ret;obtain⟨o2,g2,a2⟩:=H2.out;have CA:=On hT (r:=r) (w1:=w1) (l':=l ++ [c]) hB ak.out (by simpa [Lib.byteCells] using o2) (by have:=g2.size; simp at this; omega) (λk hk h1 h2=>by rw[g2.block k (by simp; omega) (λe=>h2 (HR.out.symm.trans e.symm)),Lib.alloc_old w1 _ k hk]) ⟨g2.os,g2.tape,g2.output⟩ (by
  rcases a2 with a2 | a2
  ·exact .inl (a2.trans HR.out)
  ·exact .inr ⟨_,by simp,a2⟩) (by simp)
 exact⟨rfl,_,CA.1,ic.out.trans CA.2⟩
theorem LM{T:TypeId}(hT:BldT T)(B b:Nat)(r:Option Nat)(l:List UInt8)(s:ByteArray)(w:World)(h:Bld T B b r l w)(hl:l.length<=100000000)(hs:s.size<=100000000)(jz:B<=w.heap.size) :
 Calls prog 118 #[.pointer (some ⟨b,0,none⟩),.string s] w (DT T B b r (l++s.data.toList) (.tuple #[.int .i64 s.size,.nilIface]) w):=by
 obtain⟨i0,hi,ea,bI,aN⟩:=info_parts Tryz.infoByte;have H:=jq h;clear h;go_enter func118,ntmps118;go_wp2_with fail;refine (L7 hT B b r l _ H.out).mono ?_;rintro e w1 ⟨rfl,⟨v,hB,sW,hown,hr,hne,Fg⟩,aZ⟩;have c1:w1.cell? ⟨b,1,none⟩=some v:=by rw[Lib.cell_of_heap sW]; rfl
 have ab:b<w1.heap.size:=(eQ.1 sW).1;have HO:=jq hown;have Cw:=jq sW;have HR:=jq hr;have ic:=jq aZ;have HN:=jq Fg;have sh:=aZ.size;clear hown sW hr aZ Fg;go_wp2_with (at_builtin; refine Tl _ rfl _ _ 169 9 rfl B 5 i0 underlying169 underlying9 hi ea bI aN _ _ _ rfl HO.out s rfl (by unfold maxLen; omega) (by omega) (by omega) ?_; intro v' w2 qa CF hat wJ; have H2:=jq (And.intro qa (And.intro CF hat)); have er:=jq wJ; clear qa CF hat wJ; have aa:w2.heap[b]?=some (.cells #[.pointer (some ⟨b,0,none⟩),v] T (0,0)):=(by rw[H2.out.2.1.block b ab (λe=>hne (HR.out.symm.trans e.symm))]; exact Cw.out); have d1:w2.cell? ⟨b,1,none⟩=some v:=(by rw[Lib.cell_of_heap aa]; rfl); have f1:w2.frozen? ⟨b,1,none⟩=false:=Lib.frozen_of_heap aa 1; have ak:=jq aa; clear aa; obtain⟨ao,cap,rfl⟩:=xX H2.out.1);go_ret2;obtain⟨o2,g2,a2⟩:=H2.out;have CA:=On hT (r:=r) (w1:=w1) (l':=l++s.data.toList) hB ak.out (by simpa [Lib.byteCells,Lib.strCells] using o2) g2.size (λk hk h1 h2=>g2.block k hk (λe=>h2 (HR.out.symm.trans e.symm))) ⟨g2.os,g2.tape,g2.output⟩ (by
  rcases a2 with a2 | a2
  ·exact .inl (a2.trans HR.out)
  ·exact .inr ⟨_,bQ _,a2⟩) (by
  intro h0;have h1:=List.append_eq_nil_iff.1 h0;exact er.out.2 ⟨HN.out h1.1,by rw[<-bn,h1.2]; rfl⟩)
 exact⟨rfl,_,CA.1,ic.out.trans CA.2⟩
def vL(T:TypeId)(B b:Nat)(l:List UInt8)(w:World):Prop:=
 ∃ p v,B<=b/\w.heap[b]?=some (.cells #[p,v] T (0,0))/\((v = .slice none 0 0/\l = [])\/∃ g cap cur fr,v = .slice (some ⟨g,0,none⟩) l.length cap/\l≠[]/\B<=g/\g≠b/\w.heap[g]?=some (.cells cur 5 fr)/\l.length<=cur.size/\l.length<=cap/\l.length<=9223372036854775807/\cur.toList.take l.length=Lib.byteCells l)
theorem Bld.read{T:TypeId}{B b:Nat}{r:Option Nat}{l:List UInt8}{w:World}(h:Bld T B b r l w):vL T B b l w:=by
 obtain⟨p,v,_,hB,hb,ho,hr,hne,hn⟩:=h;refine⟨p,v,hB,hb,?_⟩;by_cases h0:l = []
 ·exact .inl ⟨hn h0,h0⟩
 ·right;rcases ho.2 with ⟨_,h1⟩ | ⟨g,cap,cur,rfl,fJ,hg,pr,gG,hcs,ht⟩
  ·exact absurd (rQ h1) h0
  ·refine⟨g,cap,cur,_,rfl,h0,fJ,λe=>hne ?_,hg,by omega,pr,by unfold maxLen at gG; omega,by simpa using ht⟩;rw[<-hr,e]; rfl
theorem vL.keep{T:TypeId}{B b:Nat}{l:List UInt8}{w w':World}(h:vL T B b l w)(hb:Below w.heap.size w w'):vL T B b l w':=by
 obtain⟨p,v,hB,hh,hv⟩:=h;refine⟨p,v,hB,(hb.block b (eQ.1 hh).1).trans hh,?_⟩;rcases hv with hv | ⟨g,cap,cur,fr,h1,h2,h3,h4,h5,h6⟩
 ·exact .inl hv
 ·exact .inr ⟨g,cap,cur,fr,h1,h2,h3,h4,(hb.block g (eQ.1 h5).1).trans h5,h6⟩
theorem TT{w:World}{g n k:Nat}(h:k≠g):(w.freeze ⟨g,0,none⟩ n).heap[k]?=w.heap[k]?:=by
 unfold World.freeze;split
 ·rfl
 ·simp only[Array.getElem?_modify];rw[Qc (Ne.symm h)]
theorem TU{w:World}{g n:Nat}{cur:Array Value}{t:TypeId}{fr:Nat×Nat}(h:w.heap[g]?=some (.cells cur t fr)):∃ fr',(w.freeze ⟨g,0,none⟩ n).heap[g]?=some (.cells cur t fr'):=by
 unfold World.freeze;split
 ·exact⟨fr,h⟩
 ·simp only[Array.getElem?_modify,if_true,h];obtain⟨lo,hi⟩:=fr;exact⟨_,rfl⟩
theorem V0{T:TypeId}(B b:Nat)(l:List UInt8)(w:World)(h:vL T B b l w) :
 Calls prog 122 #[.pointer (some ⟨b,0,none⟩)] w λe w'=>e = .returned (aH l)/\vL T B b l w'/\Below B w w':=by
 obtain⟨p,v,hB,hb,hv⟩:=h;rcases hv with ⟨rfl,rfl⟩ | ⟨g,cap,cur,fr,rfl,h0,SM,fy,hg,Qj,afK,li,ht⟩
 ·have c1:w.drew.cell? ⟨b,1,none⟩=some (.slice none 0 0):=by
   have:w.drew.heap[b]?=some (.cells #[p,.slice none 0 0] T (0,0)):=hb
   rw[Lib.cell_of_heap this]; rfl
  have hUS:∀ W q,(Builtin.unsafeString_ #[234,3] 9 #[.pointer q,.int .i64 0]).run prog W = .ok (.string .empty) W:=λW q=>Lib.run_unsafeString_none W _ _ _ q;have g9:(Builtin.unsafeSliceData_ #[169] 234 #[.slice none 0 0]).run prog w.drew = .ok (.pointer none) w.drew:=rfl;have HB:=jq hb;clear hb;go_enter func122,ntmps122;go_wp2;go_region
  all_goals (go_wp2; go_ret; exact⟨rfl,⟨p,_,hB,HB.out,.inl ⟨rfl,rfl⟩⟩,(vQ _ _).drew⟩)
 ·have c1:w.drew.cell? ⟨b,1,none⟩=some (.slice (some ⟨g,0,none⟩) l.length cap):=by
   have:w.drew.heap[b]?=some (.cells #[p,.slice (some ⟨g,0,none⟩) l.length cap] T (0,0)):=hb
   rw[Lib.cell_of_heap this]; rfl
  have tR:l.length≠0:=by simpa using h0
  have g9:(Builtin.unsafeSliceData_ #[169] 234 #[.slice (some ⟨g,0,none⟩) l.length cap]).run prog w.drew = .ok (.pointer (some ⟨g,0,none⟩)) w.drew:=
   Lib.run_unsafeSliceData_row _ _ _ _ _ _ (by omega)
  have hg':w.drew.heap[g]?=some (.cells cur 5 fr):=hg;have hUS:(Builtin.unsafeString_ #[234,3] 9 #[.pointer (some ⟨g,0,none⟩),.int .i64 l.length]).run prog w.drew = .ok (.string ⟨l.toArray⟩) (w.drew.freeze ⟨g,0,none⟩ l.length):=by
   refine Lib.run_unsafeString_row w.drew 234 3 9 5 underlying234 W7 g cur.size (by simp[World.shape?,hg']) l h0 Qj li ?_;intro j x hx;have pu:(⟨g,0,none⟩:Addr).add j=⟨g,j,none⟩:=by unfold Addr.add; split <;> simp_all
   rw[pu,Lib.cell_of_heap hg'];have h1:(Lib.byteCells l)[j]?=some (.int .u8 x.toNat):=by simp[Lib.byteCells,hx]
   rw[<-ht,List.getElem?_take] at h1;split at h1
   ·simpa using h1
   ·cases h1
  have HF:Hid (vL T B b l (w.drew.freeze ⟨g,0,none⟩ l.length)/\Below B w (w.drew.freeze ⟨g,0,none⟩ l.length)):=by
   obtain⟨fr',oX⟩:=TU (n:=l.length) hg';exact jq ⟨⟨p,_,hB,(TT (Ne.symm fy)).trans hb,.inr ⟨g,cap,cur,fr',rfl,h0,SM,fy,oX,Qj,afK,li,ht⟩⟩,Lib.below_freeze (Below.drew (vQ B w)) (p:=⟨g,0,none⟩) SM _⟩
  clear hb hg hg' ht;go_enter func122,ntmps122;go_wp2;go_region
  all_goals (go_wp2; go_ret; exact⟨rfl,HF.out⟩)
def Iq(b:Nat)(r:Option Nat)(w:World)(v:Value)(ws:List (List UInt8)):Prop:=
 ∃ A c,v = .slice A ws.length c/\ws.length<=c/\ws.length<=1000000/\∀ i x,ws[i]?=some x->∃ g o,A=some ⟨g,o,none⟩/\g<w.heap.size/\g≠b/\r≠some g/\w.cell? ⟨g,o+i,none⟩=some (aH x)
theorem Iq.step{b:Nat}{r r':Option Nat}{w w':World}{v:Value}{ws:List (List UInt8)}(h:Iq b r w v ws)(hs:BS b r w r' w'):Iq b r' w' v ws:=by
 obtain⟨A,c,h1,h2,h3,h4⟩:=h;refine⟨A,c,h1,h2,h3,λi x hx=>?_⟩;obtain⟨g,o,h5,h6,h7,h8,h9⟩:=h4 i x hx;exact⟨g,o,h5,lQ h6 hs.size,h7,hs.free h6 h8,(hs.cell h6 h7 h8 _).trans h9⟩
theorem LX{T:TypeId}(hT:BldT T)(B b:Nat)(r:Option Nat)(l:List UInt8)(c:UInt8)(k:Int)(hk:(c.toNat:Int)=k)(w:World)(h:Bld T B b r l w)(hl:l.length<=100000000)(jz:B<=w.heap.size) :
 Calls prog 119 #[.pointer (some ⟨b,0,none⟩),.int .u8 k] w (DT T B b r (l ++ [c]) .nilIface w):=by
 subst hk;exact TY hT B b r l c w h hl jz
end
namespace Np
theorem WT:∀ (k n:Nat),n<10 ^ (k+1)->(nB n).length<=k+1:=by
 intro k
 induction k with
 | zero=>intro n h; rw[nB,Qb (by simpa using h)]; simp
 | succ k ih=>
  intro n h;rw[nB];split
  ·simp
  ·have:=ih (n / 10) (by rw[Nat.pow_succ] at h; omega)
   simp only[List.length_append,List.length_singleton]; omega
end Np
end Go.Proofs.YtbfbobfbgabjiaaGreatDoor
namespace Go.Proofs
open YtbfbobfbgabjiaaGreatDoor
open Go.Shelf
def Tryz.laysM171_ren:Go.Shelf.Ren:=⟨fun | 171=>120 | 243=>189 | 246=>232 | 283=>233 | 284=>234 | 285=>235 | 286=>236 | 129=>157 | 317=>254 | 318=>255 | 319=>256 | 320=>257 | 337=>266 | 338=>267 | n=>n,fun | 3=>3 | 9=>9 | 2=>2 | 4=>4 | 171=>265 | 0=>0 | 53=>131 | 37=>169 | 5=>5 | 173=>267 | 212=>284 | 51=>214 | 20=>20 | 213=>285 | 46=>154 | 232=>291 | 233=>292 | n=>n,fun | 17=>2 | 18=>3 | 19=>4 | n=>n⟩
theorem Tryz.laysM171:Go.Proofs.LaysM.n171 Tryz.prog Tryz.laysM171_ren:={
 mixed:=by kernel_rfl
 f129:=Tryz.func157.trans (Qd some (by kernel_rfl))
 f171:=Tryz.func120.trans (Qd some (by kernel_rfl))
 f243:=Tryz.func189.trans (Qd some (by kernel_rfl))
 f246:=Tryz.func232.trans (Qd some (by kernel_rfl))
 f283:=Tryz.func233.trans (Qd some (by kernel_rfl))
 f284:=Tryz.func234.trans (Qd some (by kernel_rfl))
 f285:=Tryz.func235.trans (Qd some (by kernel_rfl))
 f286:=Tryz.func236.trans (Qd some (by kernel_rfl))
 f317:=Tryz.func254.trans (Qd some (by kernel_rfl))
 f318:=Tryz.func255.trans (Qd some (by kernel_rfl))
 f319:=Tryz.func256.trans (Qd some (by kernel_rfl))
 f320:=Tryz.func257.trans (Qd some (by kernel_rfl))
 f337:=Tryz.func266.trans (Qd some (by kernel_rfl))
 f338:=Tryz.func267.trans (Qd some (by kernel_rfl))
 t0:=Tryz.underlying0
 a0:=Tryz.isAgg0
 z0:=Tryz.sizeOf0
 v0:=Tryz.zeroValue0
 t2:=Tryz.underlying2
 a2:=Tryz.isAgg2
 z2:=Tryz.sizeOf2
 v2:=Tryz.zeroValue2
 t3:=Tryz.underlying3
 a3:=Tryz.isAgg3
 z3:=Tryz.sizeOf3
 v3:=Tryz.zeroValue3
 t4:=Tryz.underlying4
 a4:=Tryz.isAgg4
 z4:=Tryz.sizeOf4
 v4:=Tryz.zeroValue4
 t5:=Tryz.underlying5
 a5:=Tryz.isAgg5
 z5:=Tryz.sizeOf5
 v5:=Tryz.zeroValue5
 t9:=Tryz.underlying9
 a9:=Tryz.isAgg9
 z9:=Tryz.sizeOf9
 v9:=Tryz.zeroValue9
 t20:=Tryz.underlying20
 a20:=Tryz.isAgg20
 z20:=Tryz.sizeOf20
 v20:=Tryz.zeroValue20
 t37:=Tryz.underlying169
 a37:=Tryz.isAgg169
 z37:=Tryz.sizeOf169
 v37:=Tryz.zeroValue169
 t46:=Tryz.underlying154
 a46:=Tryz.isAgg154
 z46:=Tryz.sizeOf154
 v46:=Tryz.zeroValue154
 t51:=Tryz.underlying214
 a51:=Tryz.isAgg214
 z51:=Tryz.sizeOf214
 v51:=Tryz.zeroValue214
 t53:=Tryz.underlying131
 a53:=Tryz.isAgg131
 z53:=Tryz.sizeOf131
 v53:=Tryz.zeroValue131
 t171:=Tryz.underlying265
 a171:=Tryz.isAgg265
 z171:=Tryz.sizeOf265
 v171:=Tryz.zeroValue265
 t173:=Tryz.underlying267
 a173:=Tryz.isAgg267
 z173:=Tryz.sizeOf267
 v173:=Tryz.zeroValue267
 t212:=Tryz.underlying284
 a212:=Tryz.isAgg284
 z212:=Tryz.sizeOf284
 v212:=Tryz.zeroValue284
 t213:=Tryz.underlying285
 a213:=Tryz.isAgg285
 z213:=Tryz.sizeOf285
 t232:=Tryz.underlying291
 a232:=Tryz.isAgg291
 z232:=Tryz.sizeOf291
 v232:=Tryz.zeroValue291
 t233:=Tryz.underlying292
 a233:=Tryz.isAgg292
 z233:=Tryz.sizeOf292
 v233:=Tryz.zeroValue292
 g17:=by kernel_rfl
 g18:=by kernel_rfl
 g19:=by kernel_rfl
 i0:=by kernel_rfl
 i2:=by kernel_rfl
 i3:=by kernel_rfl
 i4:=by kernel_rfl
 i5:=by kernel_rfl
 i9:=by kernel_rfl
 i20:=by kernel_rfl
 i37:=by kernel_rfl
 i46:=by kernel_rfl
 i51:=by kernel_rfl
 i53:=by kernel_rfl
 i171:=by kernel_rfl
 i173:=by kernel_rfl
 i212:=by kernel_rfl
 i232:=by kernel_rfl
 i233:=by kernel_rfl
 m17:=by kernel_rfl
 m18:=by kernel_rfl
 m19:=by kernel_rfl }
open Go.RowKit Go.Sort Go.Lib in
theorem Tryz.strconv_Itoa(n:Int)(h0 : -9223372036854775808<=n)(h1:n<=9223372036854775807)(w:World)(Cc:Lib.TabIs Tryz.prog w "internal/strconv.uint64pow10" .u64 Lib.pow10Tab) :
 Calls Tryz.prog 120 #[.int .i64 n] w λe w'=>e = .returned (.string ⟨(Lib.itoa n).toArray⟩)/\∃ k os,w'=grow (w.drewN k) os:=Any.strconv_Itoa Tryz.laysM171 n h0 h1 w Cc
end Go.Proofs
namespace Go.Proofs.YtbfbobfbgabjiaaGreatDoor
open Go.Proofs.Tryz
section
open Go.RowKit Go.Sort Go.Lib
theorem TB(u:Nat)(BI:u<18446744073709551616)(w:World)(Cc:Lib.TabIs prog w "internal/strconv.uint64pow10" .u64 Lib.pow10Tab) :
 Calls prog 190 #[.int .u64 u,.int .i64 10] w λe w'=>e = .returned (.string ⟨(Lib.decDigits u).toArray⟩)/\∃ k os,w'=grow (w.drewN k) os:=by
 have vU:∀ w,1<=u->Lib.TabIs prog w "internal/strconv.uint64pow10" .u64 Lib.pow10Tab->Calls prog 234 #[.int .u64 u] w λe w'=>e = .returned (.int .i64 (Lib.nDigits u))/\w'=w:=λw h1 h=>Any.internal_strconv_numDigits { Tryz.laysM171 with } u h1 BI w h;by_cases hs:u<100
 ·have I3:∀ w,Calls prog 233 #[.int .i64 u] w λe w'=>e = .returned (.string ⟨(Lib.decDigits u).toArray⟩)/\w'=w:=λw=>Any.internal_strconv_small { Tryz.laysM171 with } u hs w;go_enter func190,ntmps190;go_wp2_with fail;refine (I3 _).mono ?_;rintro e w' ⟨rfl,rfl⟩;go_wp2_with fail;go_ret;exact⟨rfl,0,#[],by simp[World.drewN_zero]⟩
 ·have uM:1<=u:=by omega
  have bdQ:Lib.nDigits u<=20:=by have:=Lib.numDigits_eq u uM BI; split at this <;> omega
  have ah:Lib.nDigits u<=24:=by omega
  have iK:prog.arrayLen 265=24:=by simp[Program.arrayLen,underlying265]
  have eM:∀ W,(Instr.sliceAt 265 (.pointer (some ⟨w.heap.size,0,none⟩)) none (some (.int .i64 (Lib.nDigits u:Int))) none).run prog W = .ok (.slice (some ⟨w.heap.size,0,none⟩) (Lib.nDigits u) 24) W:=λW=>by
   rw[run_sliceAt_array_h W 265 ⟨w.heap.size,0,none⟩ (by simp[Program.arrayLen,Program.elem,underlying265]) .i64 (Lib.nDigits u:Int) (by omega) (by rw[iK]; omega)];go_simp
  have LG:=Lib.holds_zero0 w 265 (Lib.nDigits u) (by omega);have So:Calls prog 235 #[.slice (some ⟨w.heap.size,0,none⟩) (Array.replicate (Lib.nDigits u) (0:UInt8)).size 24,.int .u64 u] (w.alloc (.cells Lib.zeros24 265)) λe w'=>e = .returned (.tuple #[])/\∃ (n v':Nat) (dk:Array UInt8),w'=(putRow (λ(b:UInt8)=>Value.int .u8 (b.toNat:Int)) (w.alloc (.cells Lib.zeros24 265)) w.heap.size 0 dk).drewN n/\FmtInv (Array.replicate (Lib.nDigits u) (0:UInt8)).size u 0 v' dk:=Any.internal_strconv_formatBase10 { Tryz.laysM171 with } w.heap.size 0 24 u (Array.replicate (Lib.nDigits u) 0) (w.alloc (.cells Lib.zeros24 265)) LG (by rw[Array.size_replicate]; exact Lib.lt_pow_nDigits u) BI (by rw[Array.size_replicate]; omega);rw[Array.size_replicate] at So;have BL:=jq LG;clear LG iK;go_enter func190,ntmps190;go_wp2_with fail;refine (vU _ uM (Lib.tabIs_alloc Cc _)).mono ?_;rintro e w' ⟨rfl,rfl⟩;go_wp2_with fail;refine So.mono ?_;rintro e w' ⟨rfl,k,v',dk,rfl,hF⟩;have hcv:(convert 169 9 (.slice (some ⟨w.heap.size,0,none⟩) (Lib.nDigits u) 24)).run prog ((putRow (λ(b:UInt8)=>Value.int .u8 (b.toNat:Int)) (w.alloc (.cells Lib.zeros24 265)) w.heap.size 0 dk).drewN k) = .ok (.string ⟨(Lib.decDigits u).toArray⟩) ((putRow (λ(b:UInt8)=>Value.int .u8 (b.toNat:Int)) (w.alloc (.cells Lib.zeros24 265)) w.heap.size 0 dk).drewN k):=by
   have h:=run_convert_bytes_back (P:=prog) ((putRow (λ(b:UInt8)=>Value.int .u8 (b.toNat:Int)) (w.alloc (.cells Lib.zeros24 265)) w.heap.size 0 dk).drewN k) 169 9 5 ⟨w.heap.size,0,none⟩ 24 (Lib.decDigits u) underlying169 underlying5 underlying9 (λj hj=>by
    rw[Lib.row_is_numeral hF j hj,Lib.add_plain,World.cell?_drewN];exact cell?_putRow (λ(b:UInt8)=>Value.int .u8 (b.toNat:Int)) _ w.heap.size 0 _ dk BL.out (by rw[hF.size,Array.size_replicate]) j (by rw[hF.size]; rw[Lib.decDigits_length] at hj; exact hj))
   rw[Lib.decDigits_length] at h;exact h
  go_wp2;go_ret;obtain⟨os,eo⟩:=Lib.fin_at w (.cells Lib.zeros24 265) dk k 0;exact⟨rfl,k,os,eo⟩
theorem TV(u:Nat)(BI:u<18446744073709551616)(w:World)(Cc:Lib.TabIs prog w "internal/strconv.uint64pow10" .u64 Lib.pow10Tab) :
 Calls prog 121 #[.int .u64 u,.int .i64 10] w λe w'=>e = .returned (.string ⟨(Lib.decDigits u).toArray⟩)/\∃ k os,w'=grow (w.drewN k) os:=by
 go_enter func121,ntmps121;go_wp2_with fail;refine (TB u BI w Cc).mono ?_;rintro e w' ⟨rfl,k,os,rfl⟩;go_wp2_with fail;go_ret;exact⟨rfl,k,os,rfl⟩
end
section
open Go.RowKit
def iX(w:World):Prop:=Lib.TabIs prog w "internal/strconv.uint64pow10" .u64 Lib.pow10Tab
theorem It:prog.globalNamed "internal/strconv.uint64pow10" = some 2:=by kernel_rfl
theorem iX.lt{w:World}(h:iX w):2<w.heap.size:=by
 unfold iX Lib.TabIs World.var? at h;rw[It] at h;simp only[Option.bind_some] at h
 cases hh:w.heap[2]? with
 | none=>rw[hh] at h; cases h
 | some o=>exact (eQ.1 hh).1
theorem iX.keepAt{w w':World}{n:Nat}(h:iX w)(hb:Below n w w')(hn:2<n):iX w':=by
 unfold iX Lib.TabIs World.var? at h |-;rw[It] at h |-;simp only[Option.bind_some] at h |-;rw[hb.block _ hn]; exact h
theorem iX.keep{w w':World}(h:iX w)(hb:Below w.heap.size w w'):iX w':=h.keepAt hb h.lt
theorem Mm:∀ n:Nat,Lib.decDigits n=Np.nB n:=by
 intro n
 induction n using Nat.strongRecOn with
 | ind n ih=>
  rw[Lib.decDigits,Np.nB];split
  ·rfl
  ·rw[ih (n / 10) (by omega)]
theorem XR(n:Int)(h0:0<=n)(h1:n<=9223372036854775807)(w:World)(hP:iX w) :
 Calls prog 120 #[.int .i64 n] w λe w'=>e = .returned (aH (Np.cW n))/\Below w.heap.size w w':=
 (Tryz.strconv_Itoa n (by omega) (by omega) w hP).mono λe w' ⟨he,k,os,hw⟩=>by
   refine⟨?_,?_⟩
   ·rw[he,Lib.itoa,Qc (by omega),Mm]; rfl
   ·rw[hw]; exact Lib.below_grow _ w (bQ _) k os
theorem VF(n:Int)(h0:0<=n)(h1:n<18446744073709551616)(w:World)(hP:iX w) :
 Calls prog 121 #[.int .u64 n,.int .i64 10] w λe w'=>e = .returned (aH (Np.cW n))/\Below w.heap.size w w':=by
 obtain⟨u,rfl⟩:∃ u:Nat,n=u:=⟨n.toNat,by omega⟩;refine (TV u (by omega) w hP).mono λe w' ⟨he,k,os,hw⟩=>⟨?_,?_⟩
 ·rw[he,Mm]; rfl
 ·rw[hw]; exact Lib.below_grow _ w (bQ _) k os
theorem Al{n:Int}(h1:n<18446744073709551616):(Np.cW n).length<=20:=Np.WT 19 n.toNat (by omega)
theorem Y9(a b:List (List UInt8)):Np.gX (a++b)=Np.gX a++Np.gX b:=by simp[Np.gX]
theorem Hg:∀ (ns:List Int) (s:List UInt8),s++(ns.flatMap λn=>47::Np.cW n) ++ [47]=Np.gX (s::ns.map Np.cW)
 | [],s=>by simp[Np.gX]
 | n::ns,s=>by
   rw[Np.Aj,List.map_cons,<-Hg ns (Np.cW n)];simp
theorem OZ:∀ (ns:List Int) (s:List UInt8),(∀ n∈ns,n<18446744073709551616)->(s++(ns.flatMap λn=>47::Np.cW n) ++ [47]).length<=s.length+1+21 * ns.length
 | [],s,_=>by simp
 | n::ns,s,h=>by
   have:=OZ ns s (λm hm=>h m (mQ _ hm))
   have h2:=Al (h n (by simp));simp at this |-;omega
theorem Eh:BldT 171:=⟨by kernel_rfl,by decide⟩
def lB(b:Nat)(r:Option Nat)(w:World)(v:Value)(ns:List Int):Prop:=
 ∃ A c,v = .slice A ns.length c/\ns.length<=c/\∀ i x,ns[i]?=some x->∃ g o,A=some ⟨g,o,none⟩/\g<w.heap.size/\g≠b/\r≠some g/\w.cell? ⟨g,o+i,none⟩=some (.int .i64 x)
theorem lB.step{b:Nat}{r r':Option Nat}{w w':World}{v:Value}{ns:List Int}(h:lB b r w v ns)(hs:BS b r w r' w'):lB b r' w' v ns:=by
 obtain⟨A,c,h1,h2,h4⟩:=h;refine⟨A,c,h1,h2,λi x hx=>?_⟩;obtain⟨g,o,h5,h6,h7,h8,h9⟩:=h4 i x hx;exact⟨g,o,h5,lQ h6 hs.size,h7,hs.free h6 h8,(hs.cell h6 h7 h8 _).trans h9⟩
theorem lB.nil(b:Nat)(r:Option Nat)(w:World):lB b r w (.slice none 0 0) []:=⟨none,0,rfl,bQ _,λi x h=>by simp at h⟩
def qB(ns:List Int):List UInt8:=ns.flatMap λn=>47::Np.cW n
theorem Ww{ns:List Int}{k:Nat}{x:Int}(hx:ns[k]?=some x):qB (ns.take (k+1))=qB (ns.take k) ++ [47]++Np.cW x:=by
 obtain⟨hl,he⟩:=cQ.1 hx;rw[fQ hl,he];simp[qB]
theorem N3:∀ (ns:List Int),(∀ n∈ns,n<18446744073709551616)->(qB ns).length<=21 * ns.length
 | [],_=>by simp[qB]
 | n::ns,h=>by
   have:=N3 ns (λm hm=>h m (mQ _ hm))
   have h2:=Al (h n (by simp));simp[qB] at this |-;omega
theorem DV(B b:Nat)(r:Option Nat)(l:List UInt8)(s:ByteArray)(v:Value)(ns:List Int)(w:World)(h:Bld 171 B b r l w)(hv:lB b r w v ns)(hn:∀ n∈ns,0<=n/\n<=9223372036854775807)(hl:l.length<=10000000)(hs:s.size<=100000)(wJ:ns.length<=100)(jz:B<=w.heap.size)(hP:iX w)(hPB:2<B) :
 Calls prog 117 #[.string s,v,.pointer (some ⟨b,0,none⟩)] w (DT 171 B b r (l++Np.gX (s.data.toList::ns.map Np.cW)) (.tuple #[]) w):=by
 have H:=jq h;have HV:=jq hv;have HP:=jq hP;have HN:=jq hn;have ku:=jq h.row.1;have mB:=jq h.row.2.2;obtain⟨A,c,rfl,hc,-⟩:=hv;obtain⟨m,hm⟩:∃ m,ns.length=m:=⟨_,rfl⟩;rw[hm] at wJ;have HM:=jq hm;have Li:Hid (∀ k,(qB (ns.take k)).length<=2100):=jq (λk=>by
  have h1:=N3 (ns.take k) (λn hn'=>by have:=HN.out n (List.mem_of_mem_take hn'); omega);rw[List.length_take] at h1;have h2:=HM.out;omega)
 have eM:s.data.toList.length=s.size:=bn s;have q9:=jq eM;clear h hn hP eM;rw[hm] at HV |-;clear hm hc;go_enter func117,ntmps117;go_wp2_with fail;refine (LM Eh B b r _ s _ H.out (by omega) (by omega) jz).mono ?_;rintro e w1 ⟨rfl,r1,aq,aZ⟩;have aF:=jq aq;have ic:=jq aZ;have sh:=aZ.size;clear aq aZ;go_wp2_with fail;go_loopw [11] (λi wr=>∃ (k:Nat) (r':Option Nat),k<=m/\i = .int .i64 k/\Hid (Bld 171 B b r' (l++s.data.toList++qB (ns.take k)) wr)/\Hid (BS b r w r' wr)/\Hid (lB b r' wr (.slice A m c) ns)) (λi _=>m - (intOf i).toNat)
 case atStart=>exact⟨0,r1,jQ _,rfl,jq (by simpa [qB] using aF.out),ic,jq (HV.out.step ic.out)⟩
 case round=>
  obtain⟨k,r',hk,rfl,HB,HS,HX⟩:=hrel;have an:=HS.out.size;have eL:Hid (Below B w wr):=jq (HS.out.below ku.out (λk hk=>(mB.out k hk).1) jz);by_cases ab:k<m
  ·obtain⟨x,ac⟩:∃ x,ns[k]?=some x:=⟨_,aQ (by rw[HM.out]; exact ab)⟩;obtain⟨A',c',hA,_,bU⟩:=HX.out;simp only[Value.slice.injEq] at hA;obtain⟨rfl,-,rfl⟩:=hA;obtain⟨g,o,rfl,hg,fy,AX,hcell⟩:=bU k _ ac;have HJ:=jq (Ww ac);have iN:=HN.out x (gQ ac);have JZ:=jq iN;have hnt:=Li.out k;have a7Y:=Li.out (k+1);clear bU ac iN;go_wp2_with fail;refine (LX Eh B b r' _ 47 47 rfl _ HB.out (by simp; omega) (by omega)).mono ?_;rintro e w2 ⟨rfl,r2,aa,b7⟩;have ak:=jq aa;have lF:=jq b7;have lk:=b7.size;clear aa b7;go_wp2_with fail;refine (XR x JZ.out.1 JZ.out.2 w2 (HP.out.keepAt (eL.out.trans (lF.out.below ku.out (λk hk=>(HB.out.row.2.2 k hk).1) (by omega))) hPB)).mono ?_;rintro e w3 ⟨rfl,ah⟩;have av:=jq (ak.out.keep ah);have rS:=jq (lF.out.after ah);have lI:=ah.size;clear ah;go_wp2_with fail;refine (LM Eh B b r2 _ ⟨(Np.cW x).toArray⟩ _ av.out (by simp; omega) (by rw[<-bn]; have:=Al (n:=x) (by have:=JZ.out; omega); simp; omega) (by omega)).mono ?_;rintro e w4 ⟨rfl,r4,am,Bo⟩;have bD:=jq am;have R0:=jq (rS.out.trans Bo);clear am Bo;go_wp2_with fail;go_roundw
   case rel=>exact⟨k+1,r4,by omega,by go_num,jq (by have:=bD.out; rw[HJ.out]; simpa using this),jq (HS.out.trans R0.out),jq (HX.out.step R0.out)⟩
   case measure=>simp[intOf] <;> omega
  ·have hnt:=Li.out k;have fe:Hid (ns.take k=ns):=jq (kQ (by rw[HM.out]; omega));go_wp2_with fail;refine (LX Eh B b r' _ 47 47 rfl _ HB.out (by simp; omega) (by omega)).mono ?_;rintro e w2 ⟨rfl,r2,aa,b7⟩;have ak:=jq aa;have lF:=jq (HS.out.trans b7);clear aa b7;go_wp2_with fail;go_end0;refine⟨rfl,r2,?_,lF.out⟩
   have:=ak.out
   rw[fe.out] at this;rw[<-Hg];simpa [qB] using this
theorem lB.fresh(b:Nat)(r:Option Nat)(W:World)(T:TypeId)(ns:List Int)(hb:b<W.heap.size)(hr:∀ k,r=some k->k<W.heap.size):lB b r (W.alloc (.cells (ns.map (Value.int .i64)).toArray T)) (.slice (some ⟨W.heap.size,0,none⟩) ns.length ns.length) ns:=by
 refine⟨_,_,rfl,bQ _,λi x hx=>⟨W.heap.size,0,rfl,by simp,by omega,λe=>by have:=hr _ e; omega,?_⟩⟩;rw[World.cell?_alloc_new];simp[hx]
structure KeyS(s:Np.Signed):Prop where
 name:s.set.name.length<=1000
 type:0<=s.set.type/\s.set.type<=1000000000
 life:0<=s.set.life/\s.set.life<=1000000000
 few:s.set.data.length<=100
 data:∀ d∈s.set.data,d.text.length<=1000/\(0<=d.n/\d.n<=1000000000)/\0<=d.m/\d.m<=1000000000
 fewS:s.sigs.length<=100
 sigs:∀ g∈s.sigs,g.zone.length<=1000/\(0<=g.key/\g.key<=1000000000)/\(0<=g.alg/\g.alg<=1000000000)/\(0<=g.frm/\g.frm<=1000000000)/\(0<=g.til/\g.til<=1000000000)/\0<=g.sum/\g.sum<18446744073709551616
def nN(f:List (List UInt8))(d:List Np.Datum):List UInt8:=Np.gX (f++d.flatMap Np.tK)
def nM(f:List (List UInt8))(g:List Np.Sig):List UInt8:=Np.gX (f++g.flatMap Np.rO)
theorem Yq{f:List (List UInt8)}{d:List Np.Datum}{k:Nat}{x:Np.Datum}(hx:d[k]?=some x):nN f (d.take (k+1))=nN f (d.take k)++Np.gX (x.text :: [x.n,x.m].map Np.cW):=by
 obtain⟨hl,he⟩:=cQ.1 hx;rw[fQ hl,he];unfold nN;rw[List.flatMap_append,<-List.append_assoc,Y9];rfl
theorem Yp{f:List (List UInt8)}{d:List Np.Sig}{k:Nat}{x:Np.Sig}(hx:d[k]?=some x):nM f (d.take (k+1))=nM f (d.take k)++Np.gX (x.zone :: [x.key,x.alg,x.frm,x.til].map Np.cW)++Np.gX (Np.cW x.sum::([]:List Int).map Np.cW):=by
 obtain⟨hl,he⟩:=cQ.1 hx;rw[fQ hl,he];unfold nM;simp[Np.gX,Np.rO]
theorem D0{s:List UInt8}{ns:List Int}(hs:s.length<=1000)(hn:ns.length<=4)(h:∀ n∈ns,n<=1000000000):(Np.gX (s::ns.map Np.cW)).length<=1900:=by
 have:=OZ ns s (λn hm=>by have:=h n hm; omega)
 rw[Hg] at this;omega
theorem Yv(s:ByteArray)(ty life:Int)(dv sv:Value)(d:List Np.Datum)(g:List Np.Sig)(w:World)(hP:iX w)(hK:KeyS ⟨⟨s.data.toList,ty,life,d⟩,g⟩)(hd:SlR cG 3 w w.heap.size dv d)(hg:SlR fT 6 w w.heap.size sv g) :
 Calls prog 65 #[.agg #[.string s,.int .i64 ty,.int .i64 life,dv,sv]] w λe w'=>e = .returned (aH (Np.jK ⟨⟨s.data.toList,ty,life,d⟩,g⟩))/\Below w.heap.size w w':=by
 have HK:=jq hK;have HD:=jq hd;have HG:=jq hg;have HP:=jq hP;have Lz:=hP.lt;have JT:Hid (∀ f,f = [s.data.toList,Np.cW ty,Np.cW life,Np.cW d.length]->nM (f++d.flatMap Np.tK) g=Np.jK ⟨⟨s.data.toList,ty,life,d⟩,g⟩):=jq (λf hf=>by subst hf; unfold nM Np.jK Np.AC; rw[List.append_assoc]);have EB:Hid (Np.gX (s.data.toList :: [ty,life,(d.length:Int)].map Np.cW)=nN [s.data.toList,Np.cW ty,Np.cW life,Np.cW d.length] []):=jq (by simp[nN]);have an:s.size<=1000:=by have:=hK.name; rw[<-bn]; exact this
 have JQ:d.length<=100:=hK.few;have K3:g.length<=100:=hK.fewS;obtain⟨A1,c1,rfl,_,_⟩:=ag hd;obtain⟨A2,c2,rfl,_,_⟩:=ag hg;obtain⟨n1,aJ⟩:∃ n,d.length=n:=⟨_,rfl⟩;obtain⟨n2,aK⟩:∃ n,g.length=n:=⟨_,rfl⟩;rw[aJ] at HD JT EB JQ |-;rw[aK] at HG K3 |-;have ix:=jq aJ;have iA:=jq aK;clear aJ aK hd hg hK hP;obtain⟨f0,oU⟩:∃ f0,[s.data.toList,Np.cW ty,Np.cW life,Np.cW n1]=f0:=⟨_,rfl⟩;have qd:=jq (JT.out f0 oU.symm);rw[oU] at EB;clear oU JT;obtain⟨X,hX⟩:∃ X,w.heap.size=X:=⟨_,rfl⟩;obtain⟨Y,hY⟩:∃ Y,X+1=Y:=⟨_,rfl⟩;obtain⟨W0,dS⟩:∃ W0,w.alloc (.cells #[.string s,.int .i64 ty,.int .i64 life,.slice A1 n1 c1,.slice A2 n2 c2] 68)=W0:=⟨_,rfl⟩;have ea:W0.heap.size=Y:=by rw[<-dS,<-hY,<-hX]; simp
 obtain⟨W1,ae⟩:∃ W1,W0.alloc (.cells #[.pointer none,.slice none 0 0] 171)=W1:=⟨_,rfl⟩;have da:Below X w W0:=by rw[<-dS]; exact (vQ _ _).alloc (Nat.le_of_eq hX.symm) _
 have aq:Below Y W0 W1:=by rw[<-ae]; exact (vQ _ _).alloc (Nat.le_of_eq ea.symm) _
 have bI:W1.heap.size=Y+1:=by rw[<-ae,<-ea]; simp
 have agJ:Hid (Bld 171 Y Y none [] W1):=jq (by rw[<-ae,<-ea]; exact Bld.fresh _ _);have k0:W1.cell? ⟨X,0,none⟩=some (.string s):=(cl aq (by omega)).trans (by rw[<-dS,<-hX]; simp[go_sem]);have k1:W1.cell? ⟨X,1,none⟩=some (.int .i64 ty):=(cl aq (by omega)).trans (by rw[<-dS,<-hX]; simp[go_sem]);have k2:W1.cell? ⟨X,2,none⟩=some (.int .i64 life):=(cl aq (by omega)).trans (by rw[<-dS,<-hX]; simp[go_sem]);have k3:W1.cell? ⟨X,3,none⟩=some (.slice A1 n1 c1):=(cl aq (by omega)).trans (by rw[<-dS,<-hX]; simp[go_sem]);have k4:W1.cell? ⟨X,4,none⟩=some (.slice A2 n2 c2):=(cl aq (by omega)).trans (by rw[<-dS,<-hX]; simp[go_sem]);obtain⟨W2,KA⟩:∃ W2,W1.alloc (.cells #[.int .i64 ty,.int .i64 life,.int .i64 (n1:Int)] 3)=W2:=⟨_,rfl⟩;have aa:Below W1.heap.size W1 W2:=by rw[<-KA]; exact (vQ _ _).alloc (bQ _) _
 have HNM:Hid (lB Y none W2 (.slice (some ⟨Y+1,0,none⟩) 3 3) [ty,life,(n1:Int)]):=jq (by rw[<-KA,<-bI]; exact lB.fresh Y none W1 _ [ty,life,(n1:Int)] (by omega) (λk h=>by cases h));have ay:Hid (Below Y W0 W2):=jq (aq.trans (aa.mono (by omega)));have aD:=jq da;have jR:=jq aa;have Fss:X<W1.heap.size:=by omega
 have hYl:Y<W1.heap.size:=by omega
 clear da aq aa;rw[hX] at HD HG Lz |-;go_enter func65,ntmps65;go_wp2_with fail;have aN:Y+1<=W2.heap.size:=by have:=jR.out.size; omega
 have j3:=(cl jR.out (by omega)).trans k3;have j4:=(cl jR.out (by omega)).trans k4;have vY:Hid (iX W2):=jq (HP.out.keepAt (aD.out.trans (ay.out.mono (by omega))) (by omega));clear k0 k1 k2 k3 k4 dS ae KA hX Fss hYl;have CW:Hid (∀ n∈[ty,life,(n1:Int)],0<=n/\n<=1000000000):=jq (λn hn=>by
  have h1:=HK.out.type;have h2:=HK.out.life;dsimp only at h1 h2;simp only[List.mem_cons,Qh,or_false] at hn;rcases hn with rfl | rfl | rfl <;> omega)
 refine (DV Y Y none [] s _ _ W2 (agJ.out.keep jR.out) HNM.out (λn hn=>by have:=CW.out n hn; omega) (by simp) (by omega) (by simp) (by omega) vY.out (by omega)).mono ?_;rintro e w3 ⟨rfl,r3,oi,dO⟩;rw[EB.out] at oi;have ah:Below Y W2 w3:=dO.below (bQ _) (λk h=>by cases h) (by omega);have CU:Hid (Bld 171 Y Y r3 (nN f0 []) w3):=jq (by simpa using oi);have dP:=ah.size;have i3:=(cl ah (by omega)).trans j3;have i4:=(cl ah (by omega)).trans j4;have av:Hid (Below X w w3):=jq (aD.out.trans ((ay.out.trans ah).mono (by omega)));have pX:Hid ((nN f0 []).length<=2000):=jq (by
  rw[<-EB.out]
  have:=D0 (s:=s.data.toList) (ns:=[ty,life,(n1:Int)]) HK.out.name (by simp) (λn hn=>(CW.out n hn).2)
  omega)
 clear oi dO ah j3 j4;go_wp2_with fail;go_loopw [30] (λi wr=>∃ (k:Nat) (r:Option Nat),k<=n1/\i = .int .i64 k/\Y+1<=wr.heap.size/\Hid (Bld 171 Y Y r (nN f0 (d.take k)) wr)/\Hid (Below Y w3 wr)/\Hid ((nN f0 (d.take k)).length<=2000 * (k+1))) (λi _=>n1 - (intOf i).toNat)
 case atStart=>exact⟨0,r3,jQ _,rfl,by omega,by simpa using CU,jq (vQ _ _),by simpa using pX⟩
 case round=>
  obtain⟨k,r,hk,rfl,Rt,HL,aO,HA⟩:=hrel;have HB:=jq (av.out.trans (aO.out.mono (by omega)));have q3:=(cl aO.out (by omega)).trans i3;have q4:=(cl aO.out (by omega)).trans i4;by_cases ab:k<n1
  ·obtain⟨x,ac⟩:∃ x,d[k]?=some x:=⟨_,aQ (by rw[ix.out]; exact ab)⟩;obtain⟨b,o,c',t,hA,bg,_,ht,CD,g0,g1,g2⟩:=Hs (HD.out.keep cL HB.out) ac;simp only[Value.slice.injEq] at hA;obtain⟨rfl,-,rfl⟩:=hA;have HT:=jq (Yq (f:=f0) ac);have HX:=jq (HK.out.data x (gQ ac));have CY:=jq ht;have uH:t.size<=1000:=by rw[<-bn,ht]; exact HX.out.1
   clear ac ht CD;have bW:(0:Int)<=(k:Int):=by omega
   have bV:(k:Int)<(n1:Int):=by omega
   obtain⟨w4,bN⟩:∃ w4,wr.alloc (.cells #[.string t,.int .i64 x.n,.int .i64 x.m] 96)=w4:=⟨_,rfl⟩;have ga:w4.heap.size=wr.heap.size+1:=by rw[<-bN]; simp
   have am:Below wr.heap.size wr w4:=by rw[<-bN]; exact (vQ _ _).alloc (bQ _) _
   have p0:w4.cell? ⟨wr.heap.size,0,none⟩=some (.string t):=by rw[<-bN]; simp[go_sem]
   have p1:w4.cell? ⟨wr.heap.size,1,none⟩=some (.int .i64 x.n):=by rw[<-bN]; simp[go_sem]
   have p2:w4.cell? ⟨wr.heap.size,2,none⟩=some (.int .i64 x.m):=by rw[<-bN]; simp[go_sem]
   obtain⟨w5,aX⟩:∃ w5,w4.alloc (.cells #[.int .i64 x.n,.int .i64 x.m] 3)=w5:=⟨_,rfl⟩;have aA:Below w4.heap.size w4 w5:=by rw[<-aX]; exact (vQ _ _).alloc (bQ _) _
   have qj:Below wr.heap.size wr w5:=am.trans (aA.mono (by omega));have LE:Hid (lB Y r w5 (.slice (some ⟨wr.heap.size+1,0,none⟩) 2 2) [x.n,x.m]):=jq (by rw[<-aX,<-ga]; exact lB.fresh Y r w4 _ [x.n,x.m] (by omega) (λk h=>by have:=(HL.out.row.2.2 k h).2; omega));have qP:=jq (HL.out.keep qj);have zI:Hid (iX w5):=jq (HP.out.keepAt (HB.out.trans (qj.mono (by omega))) Lz);have kF:=qj.size;have zH:=jq qj;clear am aA qj;go_wp2_with fail;clear bN aX p0 p1 p2;refine (DV Y Y r _ t _ _ w5 qP.out LE.out (λn hn=>by
    have h1:=HX.out.2;simp only[List.mem_cons,Qh,or_false] at hn;rcases hn with rfl | rfl <;> omega) (by have:=HA.out; omega) (by omega) (by simp) (by omega) zI.out (by omega)).mono ?_
   rw[CY.out,<-HT.out];rintro e w6 ⟨rfl,r6,BT,zp⟩;have aW:Below Y w5 w6:=zp.below (bQ _) (λk h=>(qP.out.row.2.2 k h).1) (by omega);have H6:=jq (And.intro BT (aO.out.trans ((zH.out.mono (by omega)).trans aW)));have gP:=aW.size;have iM:Hid ((nN f0 (d.take (k+1))).length<=2000 * (k+1+1)):=jq (by
    rw[HT.out,List.length_append]
    have:=HA.out
    have:=D0 (s:=x.text) (ns:=[x.n,x.m]) HX.out.1 (by simp) (λn hn=>by
     have h1:=HX.out.2;simp only[List.mem_cons,Qh,or_false] at hn;rcases hn with rfl | rfl <;> omega)
    omega)
   clear BT zp aW;go_wp2_with fail;go_roundw
   case rel=>exact⟨k+1,r6,by omega,by go_num,by omega,jq H6.out.1,jq H6.out.2,iM⟩
   case measure=>simp[intOf] <;> omega
  ·have fe:Hid (d.take k=d):=jq (kQ (by rw[ix.out]; omega));have oq:Hid ((nN f0 d).length<=202000):=jq (by have:=HA.out; rw[fe.out] at this; omega);rw[fe.out] at HL;go_wp2_with fail;clear ab hk;obtain⟨wo,rfl⟩:∃ wo,wo=wr:=⟨_,rfl⟩;obtain⟨f1,uB⟩:∃ f1,f0++d.flatMap Np.tK=f1:=⟨_,rfl⟩;have wV:=jq qd.out;rw[uB] at wV;have HLS:Hid (Bld 171 Y Y r (nM f1 []) wo):=jq (by have:=HL.out; unfold nN at this; rw[uB] at this; simpa [nM] using this);have HAS:Hid ((nM f1 []).length<=202000):=jq (by have:=oq.out; unfold nN at this; rw[uB] at this; simpa [nM] using this);clear uB;go_loopw [47] (λi wr=>∃ (k:Nat) (r:Option Nat),k<=n2/\i = .int .i64 k/\Y+1<=wr.heap.size/\Hid (Bld 171 Y Y r (nM f1 (g.take k)) wr)/\Hid (Below Y wo wr)/\Hid ((nM f1 (g.take k)).length<=202000+4000 * k)) (λi _=>n2 - (intOf i).toNat)
   case atStart=>exact⟨0,r,jQ _,rfl,by omega,by simpa using HLS,jq (vQ _ _),by simpa using HAS⟩
   case round=>
    obtain⟨k,r,hk,rfl,Rt,HL,lS,HA⟩:=hrel;have HC:=jq (HB.out.trans (lS.out.mono (by omega)));have s4:=(cl lS.out (by omega)).trans q4;by_cases ab:k<n2
    ·obtain⟨x,ac⟩:∃ x,g[k]?=some x:=⟨_,aQ (by rw[iA.out]; exact ab)⟩;obtain⟨b,o,c',t,hA,bg,ht,CD,g0,g1,g2,g3,g4,g5⟩:=rL (HG.out.keep gg HC.out) ac;simp only[Value.slice.injEq] at hA;obtain⟨rfl,-,rfl⟩:=hA;have HT:=jq (Yp (f:=f1) ac);have HX:=jq (HK.out.sigs x (gQ ac));have CY:=jq ht;have uH:t.size<=1000:=by rw[<-bn,ht]; exact HX.out.1
     clear ac ht CD;have bW:(0:Int)<=(k:Int):=by omega
     have bV:(k:Int)<(n2:Int):=by omega
     have QU:Hid (∀ n∈[x.key,x.alg,x.frm,x.til],0<=n/\n<=1000000000):=jq (λn hn=>by
      have h1:=HX.out.2;simp only[List.mem_cons,Qh,or_false] at hn;rcases hn with rfl | rfl | rfl | rfl <;> omega)
     obtain⟨w4,bN⟩:∃ w4,wr.alloc (.cells #[.string t,.int .i64 x.key,.int .i64 x.alg,.int .i64 x.frm,.int .i64 x.til,.int .u64 x.sum] 133)=w4:=⟨_,rfl⟩;have ga:w4.heap.size=wr.heap.size+1:=by rw[<-bN]; simp
     have am:Below wr.heap.size wr w4:=by rw[<-bN]; exact (vQ _ _).alloc (bQ _) _
     have p0:w4.cell? ⟨wr.heap.size,0,none⟩=some (.string t):=by rw[<-bN]; simp[go_sem]
     have p1:w4.cell? ⟨wr.heap.size,1,none⟩=some (.int .i64 x.key):=by rw[<-bN]; simp[go_sem]
     have p2:w4.cell? ⟨wr.heap.size,2,none⟩=some (.int .i64 x.alg):=by rw[<-bN]; simp[go_sem]
     have p3:w4.cell? ⟨wr.heap.size,3,none⟩=some (.int .i64 x.frm):=by rw[<-bN]; simp[go_sem]
     have p4:w4.cell? ⟨wr.heap.size,4,none⟩=some (.int .i64 x.til):=by rw[<-bN]; simp[go_sem]
     have p5:w4.cell? ⟨wr.heap.size,5,none⟩=some (.int .u64 x.sum):=by rw[<-bN]; simp[go_sem]
     obtain⟨w5,aX⟩:∃ w5,w4.alloc (.cells #[.int .i64 x.key,.int .i64 x.alg,.int .i64 x.frm,.int .i64 x.til] 3)=w5:=⟨_,rfl⟩;have aA:Below w4.heap.size w4 w5:=by rw[<-aX]; exact (vQ _ _).alloc (bQ _) _
     have qj:Below wr.heap.size wr w5:=am.trans (aA.mono (by omega));have LE:Hid (lB Y r w5 (.slice (some ⟨wr.heap.size+1,0,none⟩) 4 4) [x.key,x.alg,x.frm,x.til]):=jq (by rw[<-aX,<-ga]; exact lB.fresh Y r w4 _ [x.key,x.alg,x.frm,x.til] (by omega) (λk h=>by have:=(HL.out.row.2.2 k h).2; omega));have o5:=(cl aA (by omega)).trans p5;have mB:Hid (∀ k,r=some k->k<wr.heap.size):=jq (λk h=>(HL.out.row.2.2 k h).2);have qP:=jq (HL.out.keep qj);have zI:Hid (iX w5):=jq (HP.out.keepAt (HC.out.trans (qj.mono (by omega))) Lz);have kF:=qj.size;have IV:=aA.size;have zH:=jq qj;clear am aA qj;go_wp2_with fail;clear bN aX p0 p1 p2 p3 p4 p5;refine (DV Y Y r _ t _ _ w5 qP.out LE.out (λn hn=>by have:=QU.out n hn; omega) (by have:=HA.out; omega) (by omega) (by simp) (by omega) zI.out (by omega)).mono ?_;rw[CY.out];rintro e w6 ⟨rfl,r6,BT,zp⟩;have aW:Below Y w5 w6:=zp.below (bQ _) (λk h=>(qP.out.row.2.2 k h).1) (by omega);have xd:Hid ((Np.gX (x.zone :: [x.key,x.alg,x.frm,x.til].map Np.cW)).length<=1900):=jq (D0 HX.out.1 (by simp) (λn hn=>(QU.out n hn).2));have t5:=(zp.cell (k:=wr.heap.size) (by omega) (by omega) (λe=>by have:=mB.out _ e; omega) 5).trans o5;have HL6:=jq BT;have awX:=jq (lS.out.trans ((zH.out.mono (by omega)).trans aW));have gP:=aW.size;have RM:Hid (iX w6):=jq (zI.out.keepAt aW (by omega));clear BT zp aW o5;go_wp2_with fail;refine (VF x.sum HX.out.2.2.2.2.2.1 HX.out.2.2.2.2.2.2 w6 RM.out).mono ?_;rintro e w7 ⟨rfl,eD⟩;have lM:=eD.size;have tY:=jq (HL6.out.keep eD);have HP7:=jq (RM.out.keep eD);have dN:=jq (awX.out.trans (eD.mono (by omega)));have q9:Hid ((⟨(Np.cW x.sum).toArray⟩:ByteArray).size<=100):=jq (by rw[<-bn]; have:=Al HX.out.2.2.2.2.2.2; simp; omega);clear eD t5;go_wp2_with fail;refine (DV Y Y r6 _ ⟨(Np.cW x.sum).toArray⟩ _ [] w7 tY.out (lB.nil _ _ _) (λn hn=>by cases hn) (by have:=HA.out; have:=xd.out; rw[List.length_append]; omega) (by have:=q9.out; omega) (by simp) (by omega) HP7.out (by omega)).mono ?_;rintro e w8 ⟨rfl,r8,Q0,R2⟩;have kH:Below Y w7 w8:=R2.below (bQ _) (λk h=>(tY.out.row.2.2 k h).1) (by omega);have og:=kH.size;have H8:Hid (Bld 171 Y Y r8 (nM f1 (g.take (k+1))) w8/\Below Y wo w8):=jq ⟨by rw[HT.out]; simpa using Q0,dN.out.trans kH⟩;have CS:Hid ((nM f1 (g.take (k+1))).length<=202000+4000 * (k+1)):=jq (by
      rw[HT.out,List.length_append,List.length_append]
      have:=HA.out
      have:=xd.out
      have:=D0 (s:=Np.cW x.sum) (ns:=[]) (by have:=Al HX.out.2.2.2.2.2.2; omega) (by simp) (λn hn=>by cases hn)
      omega)
     clear Q0 R2 kH;go_wp2_with fail;go_roundw
     case rel=>exact⟨k+1,r8,by omega,by go_num,by omega,jq H8.out.1,jq H8.out.2,CS⟩
     case measure=>simp[intOf] <;> omega
    ·have fe:Hid (g.take k=g):=jq (kQ (by rw[iA.out]; omega));rw[fe.out] at HL;go_wp2_with fail;refine (V0 Y Y _ wr HL.out.read).mono ?_;rw[wV.out];rintro e w9 ⟨rfl,_,dY⟩;have fX:=jq (HC.out.trans (dY.mono (by omega)));clear dY;go_wp2_with fail;go_ret;exact⟨rfl,fX.out⟩
end
end Go.Proofs.YtbfbobfbgabjiaaGreatDoor
