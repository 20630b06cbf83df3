/- Parts of the proof. No condition. -/
import Derived.Test.YtfnopgdcaanaiaaGreatDoorV13
set_option linter.all false
set_option maxRecDepth 100000
set_option maxHeartbeats 8000000
namespace Go.Proofs.YtfnopgdcaanaiaaGreatDoor
section
open Go.RowKit
def TxK(Y Z E n:Nat)(l:List UInt8)(w:World):Prop:=l.length<=n/\Z<w.heap.size/\Y<Z/\(E<w.heap.size/\E≠Y)/\w.cell? ⟨Z,0,none⟩=some (.func (.func 128) #[] #[.pointer (some ⟨Y,0,none⟩)])/\∃ r,Bld 198 Y Y r l w/\r≠some Z/\r≠some E
theorem TxK.keep{Y Z E n:Nat}{l:List UInt8}{w w':World}(h:TxK Y Z E n l w)(hb:Below w.heap.size w w'):TxK Y Z E n l w':=by
 obtain⟨h1,h2,h3,h7,h4,r,h5,h6⟩:=h;exact⟨h1,lQ h2 hb.size,h3,⟨lQ h7.1 hb.size,h7.2⟩,(hb.cell (p:=⟨Z,0,none⟩) h2).trans h4,r,h5.keep hb,h6⟩
theorem TxK.more{Y Z E n m:Nat}{l:List UInt8}{w:World}(h:TxK Y Z E n l w)(hn:n<=m):TxK Y Z E m l w:=⟨yQ h.1 hn,h.2⟩
theorem TxK.fresh{Y Z E n:Nat}{l:List UInt8}{w w':World}(h:TxK Y Z E n l w)(hb:Below w.heap.size w w')(hz:w.heap.size<w'.heap.size):TxK Y Z w.heap.size n l w':=by
 obtain⟨h1,h2,h3,h7,h4,r,h5,h6,_⟩:=h;exact⟨h1,lQ h2 hb.size,h3,⟨hz,by omega⟩,(hb.cell (p:=⟨Z,0,none⟩) h2).trans h4,r,h5.keep hb,h6,λe=>by have:=(h5.row.2.2 _ e).2;omega⟩
theorem TxK.back{Y Z E n:Nat}{l:List UInt8}{w:World}(h:TxK Y Z E n l w):TxK Y Z Z n l w:=by
 obtain⟨h1,h2,h3,h7,h4,r,h5,h6,_⟩:=h;exact⟨h1,h2,h3,⟨h2,by omega⟩,h4,r,h5,h6,h6⟩
theorem TxK.step{Y Z E n m:Nat}{l l':List UInt8}{w w':World}(h:TxK Y Z E n l w)(hl:l'.length<=m){r:Option Nat}(hr:Bld 198 Y Y r l w)(hz:r≠some Z)(he:r≠some E){r':Option Nat}(hb:Bld 198 Y Y r' l' w')(hs:BS Y r w r' w'):TxK Y Z E m l' w'/\w'.heap[E]?=w.heap[E]?/\Below Y w w':=by
 obtain⟨h1,h2,h3,h7,h4,_⟩:=h;exact⟨⟨hl,lQ h2 hs.size,h3,⟨lQ h7.1 hs.size,h7.2⟩,(hs.cell h2 (by omega) hz 0).trans h4,r',hb,hs.free h2 hz,hs.free h7.1 he⟩,hs.keep E h7.1 h7.2 he,hs.below (bQ _) (λk hk=>(hr.row.2.2 k hk).1) (by have:=hr.row.2.1;omega)⟩

end
end Go.Proofs.YtfnopgdcaanaiaaGreatDoor
