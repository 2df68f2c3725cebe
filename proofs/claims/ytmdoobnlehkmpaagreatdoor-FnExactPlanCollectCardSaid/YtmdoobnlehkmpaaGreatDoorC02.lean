import Derived.Test.YtmdoobnlehkmpaaGreatDoorProg
import Derived.Test.YtmdoobnlehkmpaaGreatDoorC01
namespace Go.Proofs.YtmdoobnlehkmpaaGreatDoor.Q
open Go.RowKit W1 W2 W3
attribute [local go_sem] max2_int min2_int max_two min_two max_three min_three max_four min_four
def errW:Option Int->Value
 |none=> .nilIface
 |some c=> .iface 0 (.int .i64 c)
theorem errW_none:errW none= .nilIface:=rfl
theorem errW_some(c:Int):errW (some c)= .iface 0 (.int .i64 c):=rfl
theorem info5:(Tryz.prog.info? 5).map (fun i=>(i.zero,i.size,i.bytes))=some (some (.int .u8 0),1,1):=by kernel_rfl
theorem info9:(Tryz.prog.info? 9).map (fun i=>(i.zero,i.size,i.bytes))=some (some (.string ⟨#[]⟩),1,16):=by kernel_rfl
theorem info54:(Tryz.prog.info? 54).map (fun i=>(i.zero,i.size,i.bytes))=some (some (.agg #[(.int .i64 0),(.string ⟨#[]⟩),(.string ⟨#[]⟩),(.slice none 0 0),(.string ⟨#[]⟩),(.int .i64 0)]),6,88):=by kernel_rfl
theorem info87:(Tryz.prog.info? 87).map (fun i=>(i.zero,i.size,i.bytes))=some (some (.agg #[(.string ⟨#[]⟩),(.int .i64 0),(.string ⟨#[]⟩),(.bool false)]),4,48):=by kernel_rfl
theorem info103:(Tryz.prog.info? 103).map (fun i=>(i.zero,i.size,i.bytes))=some (some (.agg #[(.string ⟨#[]⟩),(.string ⟨#[]⟩),(.slice none 0 0),(.string ⟨#[]⟩),(.slice none 0 0)]),5,96):=by kernel_rfl
theorem info133:(Tryz.prog.info? 133).map (fun i=>(i.zero,i.size,i.bytes))=some (some (.agg #[(.string ⟨#[]⟩),(.slice none 0 0),(.string ⟨#[]⟩)]),3,56):=by kernel_rfl
theorem info134:(Tryz.prog.info? 134).map (fun i=>(i.zero,i.size,i.bytes))=some (some (.agg #[(.string ⟨#[]⟩),(.string ⟨#[]⟩)]),2,32):=by kernel_rfl
theorem info137:(Tryz.prog.info? 137).map (fun i=>(i.zero,i.size,i.bytes))=some (some (.agg #[(.string ⟨#[]⟩),(.int .i64 0),(.slice none 0 0)]),3,48):=by kernel_rfl
theorem info139:(Tryz.prog.info? 139).map (fun i=>(i.zero,i.size,i.bytes))=some (some (.agg #[(.int .i64 0),(.string ⟨#[]⟩)]),2,24):=by kernel_rfl
structure S80 where
 f0:ByteArray
 f1:Int
 f2:ByteArray
 f3:Bool
def z80:S80:=⟨(⟨#[]⟩:ByteArray),(0:Int),(⟨#[]⟩:ByteArray),false⟩
def k80:Kd S80:=Kd.iso (Kd.pair Kd.string (Kd.pair (Kd.int .i64) (Kd.pair Kd.string Kd.bool))) (fun x:S80=>(x.f0,x.f1,x.f2,x.f3))
theorem k80_open{w:World}{x:S80}{cs:List Value}(h:k80.K w x cs):cs=[.string x.f0,.int .i64 x.f1,.string x.f2,.bool x.f3]:=by
 obtain⟨_,_,rfl,rfl,⟨_,_,rfl,rfl,⟨_,_,rfl,rfl,rfl⟩⟩⟩:=h;exact rfl
def rd_T80(xs:List S80)(i:Int):S80:=xs.getD i.toNat z80
theorem at_T80{w:World}{A:Option Addr}{n:Nat}{xs:List S80}(h:Kd.C k80 w A n xs)(i:Int)(h0:0<=i)(h1:i<n):∃ad,A=some ad/\w.cell? (ad.add (i.toNat*4))=some (.string (rd_T80 xs i).f0)/\w.cell? ⟨(ad.add (i.toNat*4)).block,(ad.add (i.toNat*4)).off+1,none⟩=some (.int .i64 (rd_T80 xs i).f1)/\w.cell? ⟨(ad.add (i.toNat*4)).block,(ad.add (i.toNat*4)).off+2,none⟩=some (.string (rd_T80 xs i).f2)/\w.cell? ⟨(ad.add (i.toNat*4)).block,(ad.add (i.toNat*4)).off+3,none⟩=some (.bool (rd_T80 xs i).f3):=by
 obtain⟨ad,c,e,_,hK,hc0⟩:=Kd.C_get h z80 i h0 h1;have hc:∀j u,c[j]?=some u->w.cell? (ad.add (i.toNat*4+j))=some u:=hc0;obtain rfl:=k80_open hK;exact⟨ad,e,hc 0 _ rfl,by rw[<-qW _ _ 1 (by omega)];exact hc 1 _ rfl,by rw[<-qW _ _ 2 (by omega)];exact hc 2 _ rfl,by rw[<-qW _ _ 3 (by omega)];exact hc 3 _ rfl⟩
structure S119 where
 f0:ByteArray
 f1:ByteArray
 f2:(List ByteArray)
 f3:ByteArray
 f4:(List S80)
def z119:S119:=⟨(⟨#[]⟩:ByteArray),(⟨#[]⟩:ByteArray),([]:List ByteArray),(⟨#[]⟩:ByteArray),([]:List S80)⟩
def k119:Kd S119:=Kd.iso (Kd.pair Kd.string (Kd.pair Kd.string (Kd.pair (Kd.slice 9 Kd.string) (Kd.pair Kd.string (Kd.slice 80 k80))))) (fun x:S119=>(x.f0,x.f1,x.f2,x.f3,x.f4))
theorem k119_open{w:World}{x:S119}{cs:List Value}(h:k119.K w x cs):∃A2 c2 A4 c4,cs=[.string x.f0,.string x.f1,.slice A2 x.f2.length c2,.string x.f3,.slice A4 x.f4.length c4]/\x.f2.length<=c2/\Kd.string.C w A2 x.f2.length x.f2/\x.f4.length<=c4/\k80.C w A4 x.f4.length x.f4:=by
 obtain⟨_,_,rfl,rfl,⟨_,_,rfl,rfl,⟨_,_,rfl,⟨A2,c2,rfl,l2,g2⟩,⟨_,_,rfl,rfl,⟨A4,c4,rfl,l4,g4⟩⟩⟩⟩⟩:=h;exact⟨A2,c2,A4,c4,rfl,l2,g2,l4,g4⟩
def rd_T119(xs:List S119)(i:Int):S119:=xs.getD i.toNat z119
theorem at_T119{w:World}{A:Option Addr}{n:Nat}{xs:List S119}(h:Kd.C k119 w A n xs)(i:Int)(h0:0<=i)(h1:i<n):∃ad A2 c2 A4 c4,A=some ad/\w.cell? (ad.add (i.toNat*5))=some (.string (rd_T119 xs i).f0)/\w.cell? ⟨(ad.add (i.toNat*5)).block,(ad.add (i.toNat*5)).off+1,none⟩=some (.string (rd_T119 xs i).f1)/\w.cell? ⟨(ad.add (i.toNat*5)).block,(ad.add (i.toNat*5)).off+2,none⟩=some (.slice A2 (rd_T119 xs i).f2.length c2)/\w.cell? ⟨(ad.add (i.toNat*5)).block,(ad.add (i.toNat*5)).off+3,none⟩=some (.string (rd_T119 xs i).f3)/\w.cell? ⟨(ad.add (i.toNat*5)).block,(ad.add (i.toNat*5)).off+4,none⟩=some (.slice A4 (rd_T119 xs i).f4.length c4)/\(rd_T119 xs i).f2.length<=c2/\Kd.string.C w A2 (rd_T119 xs i).f2.length (rd_T119 xs i).f2/\(rd_T119 xs i).f4.length<=c4/\k80.C w A4 (rd_T119 xs i).f4.length (rd_T119 xs i).f4:=by
 obtain⟨ad,c,e,_,hK,hc0⟩:=Kd.C_get h z119 i h0 h1;have hc:∀j u,c[j]?=some u->w.cell? (ad.add (i.toNat*5+j))=some u:=hc0;obtain⟨A2,c2,A4,c4,rfl,l2,g2,l4,g4⟩:=k119_open hK;exact⟨ad,A2,c2,A4,c4,e,hc 0 _ rfl,by rw[<-qW _ _ 1 (by omega)];exact hc 1 _ rfl,by rw[<-qW _ _ 2 (by omega)];exact hc 2 _ rfl,by rw[<-qW _ _ 3 (by omega)];exact hc 3 _ rfl,by rw[<-qW _ _ 4 (by omega)];exact hc 4 _ rfl,l2,g2,l4,g4⟩
structure S206 where
 f0:Int
 f1:ByteArray
def z206:S206:=⟨(0:Int),(⟨#[]⟩:ByteArray)⟩
def k206:Kd S206:=Kd.iso (Kd.pair (Kd.int .i64) Kd.string) (fun x:S206=>(x.f0,x.f1))
theorem k206_open{w:World}{x:S206}{cs:List Value}(h:k206.K w x cs):cs=[.int .i64 x.f0,.string x.f1]:=by
 obtain⟨_,_,rfl,rfl,rfl⟩:=h;exact rfl
def rd_T206(xs:List S206)(i:Int):S206:=xs.getD i.toNat z206
theorem at_T206{w:World}{A:Option Addr}{n:Nat}{xs:List S206}(h:Kd.C k206 w A n xs)(i:Int)(h0:0<=i)(h1:i<n):∃ad,A=some ad/\w.cell? (ad.add (i.toNat*2))=some (.int .i64 (rd_T206 xs i).f0)/\w.cell? ⟨(ad.add (i.toNat*2)).block,(ad.add (i.toNat*2)).off+1,none⟩=some (.string (rd_T206 xs i).f1):=by
 obtain⟨ad,c,e,_,hK,hc0⟩:=Kd.C_get h z206 i h0 h1;have hc:∀j u,c[j]?=some u->w.cell? (ad.add (i.toNat*2+j))=some u:=hc0;obtain rfl:=k206_open hK;exact⟨ad,e,hc 0 _ rfl,by rw[<-qW _ _ 1 (by omega)];exact hc 1 _ rfl⟩
structure S123 where
 f0:ByteArray
 f1:Int
 f2:(List S206)
def z123:S123:=⟨(⟨#[]⟩:ByteArray),(0:Int),([]:List S206)⟩
def k123:Kd S123:=Kd.iso (Kd.pair Kd.string (Kd.pair (Kd.int .i64) (Kd.slice 206 k206))) (fun x:S123=>(x.f0,x.f1,x.f2))
theorem k123_open{w:World}{x:S123}{cs:List Value}(h:k123.K w x cs):∃A2 c2,cs=[.string x.f0,.int .i64 x.f1,.slice A2 x.f2.length c2]/\x.f2.length<=c2/\k206.C w A2 x.f2.length x.f2:=by
 obtain⟨_,_,rfl,rfl,⟨_,_,rfl,rfl,⟨A2,c2,rfl,l2,g2⟩⟩⟩:=h;exact⟨A2,c2,rfl,l2,g2⟩
def rd_T123(xs:List S123)(i:Int):S123:=xs.getD i.toNat z123
theorem at_T123{w:World}{A:Option Addr}{n:Nat}{xs:List S123}(h:Kd.C k123 w A n xs)(i:Int)(h0:0<=i)(h1:i<n):∃ad A2 c2,A=some ad/\w.cell? (ad.add (i.toNat*3))=some (.string (rd_T123 xs i).f0)/\w.cell? ⟨(ad.add (i.toNat*3)).block,(ad.add (i.toNat*3)).off+1,none⟩=some (.int .i64 (rd_T123 xs i).f1)/\w.cell? ⟨(ad.add (i.toNat*3)).block,(ad.add (i.toNat*3)).off+2,none⟩=some (.slice A2 (rd_T123 xs i).f2.length c2)/\(rd_T123 xs i).f2.length<=c2/\k206.C w A2 (rd_T123 xs i).f2.length (rd_T123 xs i).f2:=by
 obtain⟨ad,c,e,_,hK,hc0⟩:=Kd.C_get h z123 i h0 h1;have hc:∀j u,c[j]?=some u->w.cell? (ad.add (i.toNat*3+j))=some u:=hc0;obtain⟨A2,c2,rfl,l2,g2⟩:=k123_open hK;exact⟨ad,A2,c2,e,hc 0 _ rfl,by rw[<-qW _ _ 1 (by omega)];exact hc 1 _ rfl,by rw[<-qW _ _ 2 (by omega)];exact hc 2 _ rfl,l2,g2⟩
structure S126 where
 f0:ByteArray
 f1:(List S80)
 f2:ByteArray
def z126:S126:=⟨(⟨#[]⟩:ByteArray),([]:List S80),(⟨#[]⟩:ByteArray)⟩
def k126:Kd S126:=Kd.iso (Kd.pair Kd.string (Kd.pair (Kd.slice 80 k80) Kd.string)) (fun x:S126=>(x.f0,x.f1,x.f2))
theorem k126_open{w:World}{x:S126}{cs:List Value}(h:k126.K w x cs):∃A1 c1,cs=[.string x.f0,.slice A1 x.f1.length c1,.string x.f2]/\x.f1.length<=c1/\k80.C w A1 x.f1.length x.f1:=by
 obtain⟨_,_,rfl,rfl,⟨_,_,rfl,⟨A1,c1,rfl,l1,g1⟩,rfl⟩⟩:=h;exact⟨A1,c1,rfl,l1,g1⟩
def rd_T126(xs:List S126)(i:Int):S126:=xs.getD i.toNat z126
theorem at_T126{w:World}{A:Option Addr}{n:Nat}{xs:List S126}(h:Kd.C k126 w A n xs)(i:Int)(h0:0<=i)(h1:i<n):∃ad A1 c1,A=some ad/\w.cell? (ad.add (i.toNat*3))=some (.string (rd_T126 xs i).f0)/\w.cell? ⟨(ad.add (i.toNat*3)).block,(ad.add (i.toNat*3)).off+1,none⟩=some (.slice A1 (rd_T126 xs i).f1.length c1)/\w.cell? ⟨(ad.add (i.toNat*3)).block,(ad.add (i.toNat*3)).off+2,none⟩=some (.string (rd_T126 xs i).f2)/\(rd_T126 xs i).f1.length<=c1/\k80.C w A1 (rd_T126 xs i).f1.length (rd_T126 xs i).f1:=by
 obtain⟨ad,c,e,_,hK,hc0⟩:=Kd.C_get h z126 i h0 h1;have hc:∀j u,c[j]?=some u->w.cell? (ad.add (i.toNat*3+j))=some u:=hc0;obtain⟨A1,c1,rfl,l1,g1⟩:=k126_open hK;exact⟨ad,A1,c1,e,hc 0 _ rfl,by rw[<-qW _ _ 1 (by omega)];exact hc 1 _ rfl,by rw[<-qW _ _ 2 (by omega)];exact hc 2 _ rfl,l1,g1⟩
structure S129 where
 f0:ByteArray
 f1:ByteArray
def z129:S129:=⟨(⟨#[]⟩:ByteArray),(⟨#[]⟩:ByteArray)⟩
def k129:Kd S129:=Kd.iso (Kd.pair Kd.string Kd.string) (fun x:S129=>(x.f0,x.f1))
theorem k129_open{w:World}{x:S129}{cs:List Value}(h:k129.K w x cs):cs=[.string x.f0,.string x.f1]:=by
 obtain⟨_,_,rfl,rfl,rfl⟩:=h;exact rfl
def rd_T129(xs:List S129)(i:Int):S129:=xs.getD i.toNat z129
theorem at_T129{w:World}{A:Option Addr}{n:Nat}{xs:List S129}(h:Kd.C k129 w A n xs)(i:Int)(h0:0<=i)(h1:i<n):∃ad,A=some ad/\w.cell? (ad.add (i.toNat*2))=some (.string (rd_T129 xs i).f0)/\w.cell? ⟨(ad.add (i.toNat*2)).block,(ad.add (i.toNat*2)).off+1,none⟩=some (.string (rd_T129 xs i).f1):=by
 obtain⟨ad,c,e,_,hK,hc0⟩:=Kd.C_get h z129 i h0 h1;have hc:∀j u,c[j]?=some u->w.cell? (ad.add (i.toNat*2+j))=some u:=hc0;obtain rfl:=k129_open hK;exact⟨ad,e,hc 0 _ rfl,by rw[<-qW _ _ 1 (by omega)];exact hc 1 _ rfl⟩
structure S87 where
 f0:ByteArray
 f1:Int
 f2:ByteArray
 f3:Bool
def z87:S87:=⟨(⟨#[]⟩:ByteArray),(0:Int),(⟨#[]⟩:ByteArray),false⟩
def k87:Kd S87:=Kd.iso (Kd.pair Kd.string (Kd.pair (Kd.int .i64) (Kd.pair Kd.string Kd.bool))) (fun x:S87=>(x.f0,x.f1,x.f2,x.f3))
theorem k87_open{w:World}{x:S87}{cs:List Value}(h:k87.K w x cs):cs=[.string x.f0,.int .i64 x.f1,.string x.f2,.bool x.f3]:=by
 obtain⟨_,_,rfl,rfl,⟨_,_,rfl,rfl,⟨_,_,rfl,rfl,rfl⟩⟩⟩:=h;exact rfl
theorem k87_openM{w:World}{base:Nat}{ok:Nat->Prop}{x:S87}{cs:List Value}(h:k87.M w base ok x cs):cs=[.string x.f0,.int .i64 x.f1,.string x.f2,.bool x.f3]:=by
 obtain⟨_,_,rfl,rfl,⟨_,_,rfl,rfl,⟨_,_,rfl,rfl,rfl⟩⟩⟩:=h;exact rfl
theorem k87_mkM(w:World)(base:Nat)(ok:Nat->Prop)(x:S87):k87.M w base ok x [.string x.f0,.int .i64 x.f1,.string x.f2,.bool x.f3]:=⟨[.string x.f0],[.int .i64 x.f1,.string x.f2,.bool x.f3],rfl,rfl,⟨[.int .i64 x.f1],[.string x.f2,.bool x.f3],rfl,rfl,⟨[.string x.f2],[.bool x.f3],rfl,rfl,rfl⟩⟩⟩
def qB(xs:List S87)(i:Int):S87:=xs.getD i.toNat z87
theorem at_T87{w:World}{A:Option Addr}{n:Nat}{xs:List S87}(h:Kd.C k87 w A n xs)(i:Int)(h0:0<=i)(h1:i<n):∃ad,A=some ad/\w.cell? (ad.add (i.toNat*4))=some (.string (qB xs i).f0)/\w.cell? ⟨(ad.add (i.toNat*4)).block,(ad.add (i.toNat*4)).off+1,none⟩=some (.int .i64 (qB xs i).f1)/\w.cell? ⟨(ad.add (i.toNat*4)).block,(ad.add (i.toNat*4)).off+2,none⟩=some (.string (qB xs i).f2)/\w.cell? ⟨(ad.add (i.toNat*4)).block,(ad.add (i.toNat*4)).off+3,none⟩=some (.bool (qB xs i).f3):=by
 obtain⟨ad,c,e,_,hK,hc0⟩:=Kd.C_get h z87 i h0 h1;have hc:∀j u,c[j]?=some u->w.cell? (ad.add (i.toNat*4+j))=some u:=hc0;obtain rfl:=k87_open hK;exact⟨ad,e,hc 0 _ rfl,by rw[<-qW _ _ 1 (by omega)];exact hc 1 _ rfl,by rw[<-qW _ _ 2 (by omega)];exact hc 2 _ rfl,by rw[<-qW _ _ 3 (by omega)];exact hc 3 _ rfl⟩
structure S103 where
 f0:ByteArray
 f1:ByteArray
 f2:(List ByteArray)
 f3:ByteArray
 f4:(List S87)
def z103:S103:=⟨(⟨#[]⟩:ByteArray),(⟨#[]⟩:ByteArray),([]:List ByteArray),(⟨#[]⟩:ByteArray),([]:List S87)⟩
def k103:Kd S103:=Kd.iso (Kd.pair Kd.string (Kd.pair Kd.string (Kd.pair (Kd.slice 9 Kd.string) (Kd.pair Kd.string (Kd.slice 87 k87))))) (fun x:S103=>(x.f0,x.f1,x.f2,x.f3,x.f4))
theorem k103_open{w:World}{x:S103}{cs:List Value}(h:k103.K w x cs):∃A2 c2 A4 c4,cs=[.string x.f0,.string x.f1,.slice A2 x.f2.length c2,.string x.f3,.slice A4 x.f4.length c4]/\x.f2.length<=c2/\Kd.string.C w A2 x.f2.length x.f2/\x.f4.length<=c4/\k87.C w A4 x.f4.length x.f4:=by
 obtain⟨_,_,rfl,rfl,⟨_,_,rfl,rfl,⟨_,_,rfl,⟨A2,c2,rfl,l2,g2⟩,⟨_,_,rfl,rfl,⟨A4,c4,rfl,l4,g4⟩⟩⟩⟩⟩:=h;exact⟨A2,c2,A4,c4,rfl,l2,g2,l4,g4⟩
theorem k103_openM{w:World}{base:Nat}{ok:Nat->Prop}{x:S103}{cs:List Value}(h:k103.M w base ok x cs):∃v2 v4,cs=[.string x.f0,.string x.f1,v2,.string x.f3,v4]/\Kd.string.R 9 w base ok v2 x.f2/\k87.R 87 w base ok v4 x.f4:=by
 obtain⟨_,_,rfl,rfl,⟨_,_,rfl,rfl,⟨_,_,rfl,⟨v2,rfl,g2⟩,⟨_,_,rfl,rfl,⟨v4,rfl,g4⟩⟩⟩⟩⟩:=h;exact⟨v2,v4,rfl,g2,g4⟩
theorem k103_mk(w:World)(x:S103){A2:Option Addr}{c2:Nat}(l2:x.f2.length<=c2)(g2:Kd.string.C w A2 x.f2.length x.f2){A4:Option Addr}{c4:Nat}(l4:x.f4.length<=c4)(g4:k87.C w A4 x.f4.length x.f4):k103.K w x [.string x.f0,.string x.f1,.slice A2 x.f2.length c2,.string x.f3,.slice A4 x.f4.length c4]:=⟨[.string x.f0],[.string x.f1,.slice A2 x.f2.length c2,.string x.f3,.slice A4 x.f4.length c4],rfl,rfl,⟨[.string x.f1],[.slice A2 x.f2.length c2,.string x.f3,.slice A4 x.f4.length c4],rfl,rfl,⟨[.slice A2 x.f2.length c2],[.string x.f3,.slice A4 x.f4.length c4],rfl,⟨A2,c2,rfl,l2,g2⟩,⟨[.string x.f3],[.slice A4 x.f4.length c4],rfl,rfl,⟨A4,c4,rfl,l4,g4⟩⟩⟩⟩⟩
theorem k103_mkM(w:World)(base:Nat)(ok:Nat->Prop)(x:S103){v2:Value}(g2:Kd.string.R 9 w base ok v2 x.f2){v4:Value}(g4:k87.R 87 w base ok v4 x.f4):k103.M w base ok x [.string x.f0,.string x.f1,v2,.string x.f3,v4]:=⟨[.string x.f0],[.string x.f1,v2,.string x.f3,v4],rfl,rfl,⟨[.string x.f1],[v2,.string x.f3,v4],rfl,rfl,⟨[v2],[.string x.f3,v4],rfl,⟨v2,rfl,g2⟩,⟨[.string x.f3],[v4],rfl,rfl,⟨v4,rfl,g4⟩⟩⟩⟩⟩
theorem k103_openF{W:World}{ok:Nat->Prop}{x:S103}{cs:List Value}(h:Kd.FK k103 W ok x cs):∃A2 c2 A4 c4,cs=[.string x.f0,.string x.f1,.slice A2 x.f2.length c2,.string x.f3,.slice A4 x.f4.length c4]/\x.f2.length<=c2/\Kd.F Kd.string W ok A2 x.f2.length x.f2/\x.f4.length<=c4/\Kd.F k87 W ok A4 x.f4.length x.f4:=by
 obtain⟨A2,c2,A4,c4,rfl,l2,_,l4,_⟩:=k103_open (Kd.FK_now h);exact⟨A2,c2,A4,c4,rfl,l2,(fun W' hW=>by obtain⟨A2_,c2_,A4_,c4_,he,l2_,g2_,l4_,g4_⟩:=k103_open (h W' hW);injection (Option.some.inj (show some (Value.slice A2 x.f2.length c2)=some (Value.slice A2_ x.f2.length c2_) from congrArg (fun l=>l[2]?) he)) with ha_ _ _;rw[ha_];exact g2_),l4,(fun W' hW=>by obtain⟨A2_,c2_,A4_,c4_,he,l2_,g2_,l4_,g4_⟩:=k103_open (h W' hW);injection (Option.some.inj (show some (Value.slice A4 x.f4.length c4)=some (Value.slice A4_ x.f4.length c4_) from congrArg (fun l=>l[4]?) he)) with ha_ _ _;rw[ha_];exact g4_)⟩
theorem k103_mkF(W:World)(ok:Nat->Prop)(x:S103){A2:Option Addr}{c2:Nat}(l2:x.f2.length<=c2)(g2:Kd.F Kd.string W ok A2 x.f2.length x.f2){A4:Option Addr}{c4:Nat}(l4:x.f4.length<=c4)(g4:Kd.F k87 W ok A4 x.f4.length x.f4):Kd.FK k103 W ok x [.string x.f0,.string x.f1,.slice A2 x.f2.length c2,.string x.f3,.slice A4 x.f4.length c4]:=fun W2 hW=>k103_mk W2 x l2 (g2 W2 hW) l4 (g4 W2 hW)
def qC(xs:List S103)(i:Int):S103:=xs.getD i.toNat z103
theorem at_T103{w:World}{A:Option Addr}{n:Nat}{xs:List S103}(h:Kd.C k103 w A n xs)(i:Int)(h0:0<=i)(h1:i<n):∃ad A2 c2 A4 c4,A=some ad/\w.cell? (ad.add (i.toNat*5))=some (.string (qC xs i).f0)/\w.cell? ⟨(ad.add (i.toNat*5)).block,(ad.add (i.toNat*5)).off+1,none⟩=some (.string (qC xs i).f1)/\w.cell? ⟨(ad.add (i.toNat*5)).block,(ad.add (i.toNat*5)).off+2,none⟩=some (.slice A2 (qC xs i).f2.length c2)/\w.cell? ⟨(ad.add (i.toNat*5)).block,(ad.add (i.toNat*5)).off+3,none⟩=some (.string (qC xs i).f3)/\w.cell? ⟨(ad.add (i.toNat*5)).block,(ad.add (i.toNat*5)).off+4,none⟩=some (.slice A4 (qC xs i).f4.length c4)/\(qC xs i).f2.length<=c2/\Kd.string.C w A2 (qC xs i).f2.length (qC xs i).f2/\(qC xs i).f4.length<=c4/\k87.C w A4 (qC xs i).f4.length (qC xs i).f4:=by
 obtain⟨ad,c,e,_,hK,hc0⟩:=Kd.C_get h z103 i h0 h1;have hc:∀j u,c[j]?=some u->w.cell? (ad.add (i.toNat*5+j))=some u:=hc0;obtain⟨A2,c2,A4,c4,rfl,l2,g2,l4,g4⟩:=k103_open hK;exact⟨ad,A2,c2,A4,c4,e,hc 0 _ rfl,by rw[<-qW _ _ 1 (by omega)];exact hc 1 _ rfl,by rw[<-qW _ _ 2 (by omega)];exact hc 2 _ rfl,by rw[<-qW _ _ 3 (by omega)];exact hc 3 _ rfl,by rw[<-qW _ _ 4 (by omega)];exact hc 4 _ rfl,l2,g2,l4,g4⟩
structure S139 where
 f0:Int
 f1:ByteArray
def z139:S139:=⟨(0:Int),(⟨#[]⟩:ByteArray)⟩
def k139:Kd S139:=Kd.iso (Kd.pair (Kd.int .i64) Kd.string) (fun x:S139=>(x.f0,x.f1))
theorem k139_open{w:World}{x:S139}{cs:List Value}(h:k139.K w x cs):cs=[.int .i64 x.f0,.string x.f1]:=by
 obtain⟨_,_,rfl,rfl,rfl⟩:=h;exact rfl
theorem k139_openM{w:World}{base:Nat}{ok:Nat->Prop}{x:S139}{cs:List Value}(h:k139.M w base ok x cs):cs=[.int .i64 x.f0,.string x.f1]:=by
 obtain⟨_,_,rfl,rfl,rfl⟩:=h;exact rfl
theorem k139_mkM(w:World)(base:Nat)(ok:Nat->Prop)(x:S139):k139.M w base ok x [.int .i64 x.f0,.string x.f1]:=⟨[.int .i64 x.f0],[.string x.f1],rfl,rfl,rfl⟩
def qP(xs:List S139)(i:Int):S139:=xs.getD i.toNat z139
theorem at_T139{w:World}{A:Option Addr}{n:Nat}{xs:List S139}(h:Kd.C k139 w A n xs)(i:Int)(h0:0<=i)(h1:i<n):∃ad,A=some ad/\w.cell? (ad.add (i.toNat*2))=some (.int .i64 (qP xs i).f0)/\w.cell? ⟨(ad.add (i.toNat*2)).block,(ad.add (i.toNat*2)).off+1,none⟩=some (.string (qP xs i).f1):=by
 obtain⟨ad,c,e,_,hK,hc0⟩:=Kd.C_get h z139 i h0 h1;have hc:∀j u,c[j]?=some u->w.cell? (ad.add (i.toNat*2+j))=some u:=hc0;obtain rfl:=k139_open hK;exact⟨ad,e,hc 0 _ rfl,by rw[<-qW _ _ 1 (by omega)];exact hc 1 _ rfl⟩
structure S137 where
 f0:ByteArray
 f1:Int
 f2:(List S139)
def z137:S137:=⟨(⟨#[]⟩:ByteArray),(0:Int),([]:List S139)⟩
def k137:Kd S137:=Kd.iso (Kd.pair Kd.string (Kd.pair (Kd.int .i64) (Kd.slice 139 k139))) (fun x:S137=>(x.f0,x.f1,x.f2))
theorem k137_open{w:World}{x:S137}{cs:List Value}(h:k137.K w x cs):∃A2 c2,cs=[.string x.f0,.int .i64 x.f1,.slice A2 x.f2.length c2]/\x.f2.length<=c2/\k139.C w A2 x.f2.length x.f2:=by
 obtain⟨_,_,rfl,rfl,⟨_,_,rfl,rfl,⟨A2,c2,rfl,l2,g2⟩⟩⟩:=h;exact⟨A2,c2,rfl,l2,g2⟩
theorem k137_openM{w:World}{base:Nat}{ok:Nat->Prop}{x:S137}{cs:List Value}(h:k137.M w base ok x cs):∃v2,cs=[.string x.f0,.int .i64 x.f1,v2]/\k139.R 139 w base ok v2 x.f2:=by
 obtain⟨_,_,rfl,rfl,⟨_,_,rfl,rfl,⟨v2,rfl,g2⟩⟩⟩:=h;exact⟨v2,rfl,g2⟩
theorem k137_mkM(w:World)(base:Nat)(ok:Nat->Prop)(x:S137){v2:Value}(g2:k139.R 139 w base ok v2 x.f2):k137.M w base ok x [.string x.f0,.int .i64 x.f1,v2]:=⟨[.string x.f0],[.int .i64 x.f1,v2],rfl,rfl,⟨[.int .i64 x.f1],[v2],rfl,rfl,⟨v2,rfl,g2⟩⟩⟩
def qE(xs:List S137)(i:Int):S137:=xs.getD i.toNat z137
theorem at_T137{w:World}{A:Option Addr}{n:Nat}{xs:List S137}(h:Kd.C k137 w A n xs)(i:Int)(h0:0<=i)(h1:i<n):∃ad A2 c2,A=some ad/\w.cell? (ad.add (i.toNat*3))=some (.string (qE xs i).f0)/\w.cell? ⟨(ad.add (i.toNat*3)).block,(ad.add (i.toNat*3)).off+1,none⟩=some (.int .i64 (qE xs i).f1)/\w.cell? ⟨(ad.add (i.toNat*3)).block,(ad.add (i.toNat*3)).off+2,none⟩=some (.slice A2 (qE xs i).f2.length c2)/\(qE xs i).f2.length<=c2/\k139.C w A2 (qE xs i).f2.length (qE xs i).f2:=by
 obtain⟨ad,c,e,_,hK,hc0⟩:=Kd.C_get h z137 i h0 h1;have hc:∀j u,c[j]?=some u->w.cell? (ad.add (i.toNat*3+j))=some u:=hc0;obtain⟨A2,c2,rfl,l2,g2⟩:=k137_open hK;exact⟨ad,A2,c2,e,hc 0 _ rfl,by rw[<-qW _ _ 1 (by omega)];exact hc 1 _ rfl,by rw[<-qW _ _ 2 (by omega)];exact hc 2 _ rfl,l2,g2⟩
structure S133 where
 f0:ByteArray
 f1:(List S87)
 f2:ByteArray
def z133:S133:=⟨(⟨#[]⟩:ByteArray),([]:List S87),(⟨#[]⟩:ByteArray)⟩
def k133:Kd S133:=Kd.iso (Kd.pair Kd.string (Kd.pair (Kd.slice 87 k87) Kd.string)) (fun x:S133=>(x.f0,x.f1,x.f2))
theorem k133_open{w:World}{x:S133}{cs:List Value}(h:k133.K w x cs):∃A1 c1,cs=[.string x.f0,.slice A1 x.f1.length c1,.string x.f2]/\x.f1.length<=c1/\k87.C w A1 x.f1.length x.f1:=by
 obtain⟨_,_,rfl,rfl,⟨_,_,rfl,⟨A1,c1,rfl,l1,g1⟩,rfl⟩⟩:=h;exact⟨A1,c1,rfl,l1,g1⟩
theorem k133_openM{w:World}{base:Nat}{ok:Nat->Prop}{x:S133}{cs:List Value}(h:k133.M w base ok x cs):∃v1,cs=[.string x.f0,v1,.string x.f2]/\k87.R 87 w base ok v1 x.f1:=by
 obtain⟨_,_,rfl,rfl,⟨_,_,rfl,⟨v1,rfl,g1⟩,rfl⟩⟩:=h;exact⟨v1,rfl,g1⟩
theorem k133_mkM(w:World)(base:Nat)(ok:Nat->Prop)(x:S133){v1:Value}(g1:k87.R 87 w base ok v1 x.f1):k133.M w base ok x [.string x.f0,v1,.string x.f2]:=⟨[.string x.f0],[v1,.string x.f2],rfl,rfl,⟨[v1],[.string x.f2],rfl,⟨v1,rfl,g1⟩,rfl⟩⟩
def qN(xs:List S133)(i:Int):S133:=xs.getD i.toNat z133
theorem at_T133{w:World}{A:Option Addr}{n:Nat}{xs:List S133}(h:Kd.C k133 w A n xs)(i:Int)(h0:0<=i)(h1:i<n):∃ad A1 c1,A=some ad/\w.cell? (ad.add (i.toNat*3))=some (.string (qN xs i).f0)/\w.cell? ⟨(ad.add (i.toNat*3)).block,(ad.add (i.toNat*3)).off+1,none⟩=some (.slice A1 (qN xs i).f1.length c1)/\w.cell? ⟨(ad.add (i.toNat*3)).block,(ad.add (i.toNat*3)).off+2,none⟩=some (.string (qN xs i).f2)/\(qN xs i).f1.length<=c1/\k87.C w A1 (qN xs i).f1.length (qN xs i).f1:=by
 obtain⟨ad,c,e,_,hK,hc0⟩:=Kd.C_get h z133 i h0 h1;have hc:∀j u,c[j]?=some u->w.cell? (ad.add (i.toNat*3+j))=some u:=hc0;obtain⟨A1,c1,rfl,l1,g1⟩:=k133_open hK;exact⟨ad,A1,c1,e,hc 0 _ rfl,by rw[<-qW _ _ 1 (by omega)];exact hc 1 _ rfl,by rw[<-qW _ _ 2 (by omega)];exact hc 2 _ rfl,l1,g1⟩
structure S134 where
 f0:ByteArray
 f1:ByteArray
def z134:S134:=⟨(⟨#[]⟩:ByteArray),(⟨#[]⟩:ByteArray)⟩
def k134:Kd S134:=Kd.iso (Kd.pair Kd.string Kd.string) (fun x:S134=>(x.f0,x.f1))
theorem k134_open{w:World}{x:S134}{cs:List Value}(h:k134.K w x cs):cs=[.string x.f0,.string x.f1]:=by
 obtain⟨_,_,rfl,rfl,rfl⟩:=h;exact rfl
theorem k134_openM{w:World}{base:Nat}{ok:Nat->Prop}{x:S134}{cs:List Value}(h:k134.M w base ok x cs):cs=[.string x.f0,.string x.f1]:=by
 obtain⟨_,_,rfl,rfl,rfl⟩:=h;exact rfl
theorem k134_mkM(w:World)(base:Nat)(ok:Nat->Prop)(x:S134):k134.M w base ok x [.string x.f0,.string x.f1]:=⟨[.string x.f0],[.string x.f1],rfl,rfl,rfl⟩
def rd_T134(xs:List S134)(i:Int):S134:=xs.getD i.toNat z134
theorem at_T134{w:World}{A:Option Addr}{n:Nat}{xs:List S134}(h:Kd.C k134 w A n xs)(i:Int)(h0:0<=i)(h1:i<n):∃ad,A=some ad/\w.cell? (ad.add (i.toNat*2))=some (.string (rd_T134 xs i).f0)/\w.cell? ⟨(ad.add (i.toNat*2)).block,(ad.add (i.toNat*2)).off+1,none⟩=some (.string (rd_T134 xs i).f1):=by
 obtain⟨ad,c,e,_,hK,hc0⟩:=Kd.C_get h z134 i h0 h1;have hc:∀j u,c[j]?=some u->w.cell? (ad.add (i.toNat*2+j))=some u:=hc0;obtain rfl:=k134_open hK;exact⟨ad,e,hc 0 _ rfl,by rw[<-qW _ _ 1 (by omega)];exact hc 1 _ rfl⟩
structure S54 where
 f0:Int
 f1:ByteArray
 f2:ByteArray
 f3:(List S87)
 f4:ByteArray
 f5:Int
def z54:S54:=⟨(0:Int),(⟨#[]⟩:ByteArray),(⟨#[]⟩:ByteArray),([]:List S87),(⟨#[]⟩:ByteArray),(0:Int)⟩
def k54:Kd S54:=Kd.iso (Kd.pair (Kd.int .i64) (Kd.pair Kd.string (Kd.pair Kd.string (Kd.pair (Kd.slice 87 k87) (Kd.pair Kd.string (Kd.int .i64)))))) (fun x:S54=>(x.f0,x.f1,x.f2,x.f3,x.f4,x.f5))
theorem k54_open{w:World}{x:S54}{cs:List Value}(h:k54.K w x cs):∃A3 c3,cs=[.int .i64 x.f0,.string x.f1,.string x.f2,.slice A3 x.f3.length c3,.string x.f4,.int .i64 x.f5]/\x.f3.length<=c3/\k87.C w A3 x.f3.length x.f3:=by
 obtain⟨_,_,rfl,rfl,⟨_,_,rfl,rfl,⟨_,_,rfl,rfl,⟨_,_,rfl,⟨A3,c3,rfl,l3,g3⟩,⟨_,_,rfl,rfl,rfl⟩⟩⟩⟩⟩:=h;exact⟨A3,c3,rfl,l3,g3⟩
theorem k54_openM{w:World}{base:Nat}{ok:Nat->Prop}{x:S54}{cs:List Value}(h:k54.M w base ok x cs):∃v3,cs=[.int .i64 x.f0,.string x.f1,.string x.f2,v3,.string x.f4,.int .i64 x.f5]/\k87.R 87 w base ok v3 x.f3:=by
 obtain⟨_,_,rfl,rfl,⟨_,_,rfl,rfl,⟨_,_,rfl,rfl,⟨_,_,rfl,⟨v3,rfl,g3⟩,⟨_,_,rfl,rfl,rfl⟩⟩⟩⟩⟩:=h;exact⟨v3,rfl,g3⟩
theorem k54_mkM(w:World)(base:Nat)(ok:Nat->Prop)(x:S54){v3:Value}(g3:k87.R 87 w base ok v3 x.f3):k54.M w base ok x [.int .i64 x.f0,.string x.f1,.string x.f2,v3,.string x.f4,.int .i64 x.f5]:=⟨[.int .i64 x.f0],[.string x.f1,.string x.f2,v3,.string x.f4,.int .i64 x.f5],rfl,rfl,⟨[.string x.f1],[.string x.f2,v3,.string x.f4,.int .i64 x.f5],rfl,rfl,⟨[.string x.f2],[v3,.string x.f4,.int .i64 x.f5],rfl,rfl,⟨[v3],[.string x.f4,.int .i64 x.f5],rfl,⟨v3,rfl,g3⟩,⟨[.string x.f4],[.int .i64 x.f5],rfl,rfl,rfl⟩⟩⟩⟩⟩
def rd_T54(xs:List S54)(i:Int):S54:=xs.getD i.toNat z54
theorem at_T54{w:World}{A:Option Addr}{n:Nat}{xs:List S54}(h:Kd.C k54 w A n xs)(i:Int)(h0:0<=i)(h1:i<n):∃ad A3 c3,A=some ad/\w.cell? (ad.add (i.toNat*6))=some (.int .i64 (rd_T54 xs i).f0)/\w.cell? ⟨(ad.add (i.toNat*6)).block,(ad.add (i.toNat*6)).off+1,none⟩=some (.string (rd_T54 xs i).f1)/\w.cell? ⟨(ad.add (i.toNat*6)).block,(ad.add (i.toNat*6)).off+2,none⟩=some (.string (rd_T54 xs i).f2)/\w.cell? ⟨(ad.add (i.toNat*6)).block,(ad.add (i.toNat*6)).off+3,none⟩=some (.slice A3 (rd_T54 xs i).f3.length c3)/\w.cell? ⟨(ad.add (i.toNat*6)).block,(ad.add (i.toNat*6)).off+4,none⟩=some (.string (rd_T54 xs i).f4)/\w.cell? ⟨(ad.add (i.toNat*6)).block,(ad.add (i.toNat*6)).off+5,none⟩=some (.int .i64 (rd_T54 xs i).f5)/\(rd_T54 xs i).f3.length<=c3/\k87.C w A3 (rd_T54 xs i).f3.length (rd_T54 xs i).f3:=by
 obtain⟨ad,c,e,_,hK,hc0⟩:=Kd.C_get h z54 i h0 h1;have hc:∀j u,c[j]?=some u->w.cell? (ad.add (i.toNat*6+j))=some u:=hc0;obtain⟨A3,c3,rfl,l3,g3⟩:=k54_open hK;exact⟨ad,A3,c3,e,hc 0 _ rfl,by rw[<-qW _ _ 1 (by omega)];exact hc 1 _ rfl,by rw[<-qW _ _ 2 (by omega)];exact hc 2 _ rfl,by rw[<-qW _ _ 3 (by omega)];exact hc 3 _ rfl,by rw[<-qW _ _ 4 (by omega)];exact hc 4 _ rfl,by rw[<-qW _ _ 5 (by omega)];exact hc 5 _ rfl,l3,g3⟩
structure GOK(w:World):Prop where mk::(out:∃m:Int,w.cell? ⟨0,0,none⟩=some (.int .i64 m))
theorem GOK.below{w w':World}(h:GOK w)(b:Below w.heap.size w w'):GOK w':=by
 obtain⟨m,hm⟩:=h.out;exact⟨⟨m,pw_cell_below b hm⟩⟩
theorem GOK.drawn{w w':World}(h:GOK w)(d:vB w w'):GOK w':=h.below d.below
theorem bl_total:∀a b:List UInt8,(Op.bytesLess a b||a==b)= !(Op.bytesLess b a)
 |[],[]=>by simp[Op.bytesLess]
 |[],_::_=>by simp[Op.bytesLess]
 |_::_,[]=>by simp[Op.bytesLess]
 |x::a,y::b=>by
  have ih:=bl_total a b;simp only[Op.bytesLess];by_cases h:x=y
  ·subst h;simpa using ih
  ·by_cases h1:x<y
   ·have h2:¬y<x:=by intro h3;exact absurd (UInt8.lt_trans h1 h3) (by simp)
    simp[h1,h2,h,Ne.symm h]
   ·have h2:y<x:=by
     rcases UInt8.lt_or_lt_of_ne h with h3|h3
     ·exact absurd h3 h1
     ·exact h3
    simp[h1,h2,h,Ne.symm h]
theorem bl_leq(t:TypeId)(a b:ByteArray):binOp .leq t (.string a) (.string b)=pure (.bool (!(Op.bytesLess b.toList a.toList))):=by
 rw[<-bl_total];simp[binOp,Op.stringOp]
theorem bl_gtr(t:TypeId)(a b:ByteArray):binOp .gtr t (.string a) (.string b)=pure (.bool (Op.bytesLess b.toList a.toList)):=by
 have h:=bl_total a.toList b.toList;have h2:(Op.bytesLess b.toList a.toList)= !(Op.bytesLess a.toList b.toList||a.toList==b.toList):=by rw[h];simp
 rw[h2];simp[binOp,Op.stringOp]
theorem bl_geq(t:TypeId)(a b:ByteArray):binOp .geq t (.string a) (.string b)=pure (.bool (!(Op.bytesLess a.toList b.toList))):=by
 simp[binOp,Op.stringOp]
theorem qS{P:Program}{id:Nat}{Q:Exit->Act->World->Prop}{a:Act}{w:World}{l:List Oper}{C:World->Prop}(hm:P.follows .mixedOrders=true)(hB:Region.lexB .any l.toArray=true)(hC:C w.drew)
 (h:wpQuiet P l.toArray C (fun a'=>∀w',C w'->Q .normal a' w') l a):(Code.region id l.toArray true).wp P Q a w:=wp_region_quiet hm hB hC (by simpa using h)
theorem callB{P:Program}{f:FuncId}{args:Array Value}{w W:World}{v:Value}(h:Calls P f args W fun e w'=>e= .returned v/\Below W.heap.size W w')(hW:Below w.heap.size w W):Calls P f args W fun e w'=>e= .returned v/\Below w.heap.size w w':=
 h.mono fun e w' ⟨he,hb⟩=>⟨he,below_step hW hb⟩
theorem callD{P:Program}{f:FuncId}{args:Array Value}{w W:World}{v:Value}(h:Calls P f args W fun e w'=>e= .returned v/\vB W w')(hW:Below w.heap.size w W):Calls P f args W fun e w'=>e= .returned v/\Below w.heap.size w w':=
 h.mono fun e w' ⟨he,hb⟩=>⟨he,below_step hW hb.below⟩
theorem qJ{w:World}{a:Addr}{v:Value}(h:w.cell? a=some v):∀W,Below w.heap.size w W->W.cell? a=some v:=fun W hW=>(hW.cell (World.block_lt_of_cell? w _ h)).trans h
theorem qG{a b:World}{φ:World->Prop}(h:∀W,Below a.heap.size a W->φ W)(hs:Below a.heap.size a b):∀W,Below b.heap.size b W->φ W:=fun W hW=>h W (below_step hs hW)
theorem R_one{α:Type}{d:Kd α}{e:Nat}{w:World}{base:Nat}{ok:Nat->Prop}{v:Value}{xs:List α}(h:d.R e w base ok v xs):v.oneCell'=true:=by
 obtain⟨A,c,rfl,_⟩:=Kd.R_reads h;rfl
theorem run_store_one{P:Program}{w:World}{a:Addr}{v:Value}{m:Mode}(h:v.oneCell'=true):(store a v m).run P w=stored P w a v m:=run_store P w a v m h
theorem print_append_str_step{P:Program}{ops:Array Oper}{o:Oper}{a:Act}{Q:Exit->Act->World->Prop}{Kc:Act->World->Prop}{w0 W:World}(base:Nat)(hw:Region.wanted o (yielded ops a.tmps)=true)(s x:Operand)(t u e:TypeId)
 (ho:o.op= .call { callee:= .builtin .append,args:= #[s,x],argTypes:= #[t,u] })
 (ht:P.underlying t=some (.slice e)) (hu:P.underlying u=some .string) (hinfo:(P.info? e).map (fun i=>(i.zero,i.size,i.bytes))=some (some (.int .u8 0),1,1))
 (v:Value) (xs:List Int) (y:ByteArray) (hs:a.eval s=v) (hx:a.eval x= .string y)
 (HO:W.ownsRow base e 1 v xs.length (nums .u8 xs)) (HB:Below base w0 W) (hbase:base<=W.heap.size) (hl:xs.length+y.size<=140737488355328)
 (h:∀v1 w1,w1.ownsRow base e 1 v1 (xs++bytesOf y).length (nums .u8 (xs++bytesOf y))->Below base w0 w1->W.grownBy w1 v.ownBlock->Kc (a.put o.dst v1) w1):
 if Region.wanted o (yielded ops a.tmps)=true then Oper.wp P o a W Kc Q else Kc (a.put o.dst undef) W:=by
 obtain⟨i0,hi,hzz⟩:=Option.map_eq_some_iff.1 hinfo;simp only[Prod.mk.injEq] at hzz;obtain⟨hz0,hz1,hz2⟩:=hzz;obtain⟨v1,w1,hr,hown,hg,_⟩:=Lib.run_append_own_string (P:=P) W base t u o.type e i0 ht hu hi hz0 hz1 hz2 v xs.length (nums .u8 xs) HO y (by simp only[maxLen];omega) hl hbase;have hl2:(xs++bytesOf y).length=xs.length+y.size:=by rw[List.length_append,bytesOf_length]
 have hc:nums .u8 (xs++bytesOf y)=nums .u8 xs++Lib.strCells y:=by
  rw[nums_append]
  congr 1
  simp[nums,bytesOf,Lib.strCells]
 rw[if_pos hw];unfold Oper.wp execOp;simp only[ho,resolve,invoke,builtin,Sem.run_bind,Sem.run_pure,Result.andThen_ok,List.map_toArray,List.map_cons,List.map_nil,hs,hx,hr];exact h v1 w1 (by rw[hl2,hc];exact hown) (HB.grown hg hbase (own_base HO)) hg
end Go.Proofs.YtmdoobnlehkmpaaGreatDoor.Q
