/- TopAsks: part 11: Act FnEq ActR TopRes9 TopRes10. -/
import Derived.Test.YtclgigmgbebhgaaGreatDoorA10
set_option linter.unusedVariables false
set_option linter.unusedSimpArgs false
set_option maxRecDepth 100000
set_option maxHeartbeats 16000000
namespace Go.Proofs.YtclgigmgbebhgaaGreatDoor.Yo
open Tryz
open Go Go.Proofs Go.RowKit
def Xq(k:Int):ByteArray:=if k=1 then⟨#[107,105,108,108]⟩ else if k=2 then⟨#[107,105,108,108,95,116,104,114,101,97,100]⟩ else if k=3 then⟨#[116,114,97,112]⟩ else if k=4 then⟨#[101,114,114,110,111]⟩ else if k=5 then⟨#[110,111,116,105,102,121]⟩ else if k=6 then⟨#[116,114,97,99,101]⟩ else if k=7 then⟨#[108,111,103]⟩ else if k=8 then⟨#[97,108,108,111,119]⟩ else⟨#[]⟩
def YY(k:Int):Int:=if k=1 then 2147483648 else if k=2 then 0 else if k=3 then 196608 else if k=4 then 327680 else if k=5 then 2143289344 else if k=6 then 2146435072 else if k=7 then 2147221504 else if k=8 then 2147418112 else 0
def yX(k:Int):Option Int:=if k=4 then some 4095 else if k=6 then some 65535 else none
def YE(k:Int):Int:=if k=4 then 4095 else if k=6 then 65535 else 0
def Zw(k n:Int):Bool:=decide (1<=k/\k<=8/\0<=n/\n<=YE k)
def cP(W:World)(m:Option Int)(v:Value):Prop:=
 match m with
 |none=>v=.nilFunc
 |some n=>∃B,v=.func (.func 344) #[] #[.pointer (some ⟨B,0,none⟩)]/\Z8 W B 3 #[.int .i64 (n+1)]
def Zt(s:Nat):Array Value:=#[.string ⟨#[107,105,108,108]⟩,.int .u32 2147483648,.nilFunc,.string ⟨#[107,105,108,108,95,116,104,114,101,97,100]⟩,.int .u32 0,.nilFunc,.string ⟨#[116,114,97,112]⟩,.int .u32 196608,.nilFunc,.string ⟨#[101,114,114,110,111]⟩,.int .u32 327680,.func (.func 344) #[] #[.pointer (some ⟨s,0,none⟩)],.string ⟨#[110,111,116,105,102,121]⟩,.int .u32 2143289344,.nilFunc,.string ⟨#[116,114,97,99,101]⟩,.int .u32 2146435072,.func (.func 344) #[] #[.pointer (some ⟨s+1,0,none⟩)],.string ⟨#[108,111,103]⟩,.int .u32 2147221504,.nilFunc,.string ⟨#[97,108,108,111,119]⟩,.int .u32 2147418112,.nilFunc]
theorem NK(n:Int)(w:World):Calls prog 302 #[.int .i64 n] w λe w'=>e=.returned (.func (.func 344) #[] #[.pointer (some ⟨w.heap.size,0,none⟩)])/\w.alloc (.cells #[.int .i64 n] 3)=w':=by
 go_enter func302,ntmps302;go_wp2;go_ret;exact⟨rfl,rfl⟩
theorem Cc(B:Nat)(n:Int)(w:World)(A:Z8 w B 3 #[.int .i64 (n+1)])(C:0<=n)(D:n<=100000):
 Calls prog 344 #[.pointer (some ⟨B,0,none⟩)] w λe w'=>e=.returned (.int .i64 n)/\w=w':=by
 have hc:=A.cell 0;simp only[ak,aL] at hc;go_enter func344,ntmps344;go_wp2;go_ret;exact⟨OT jO,rfl⟩
theorem WE(w:World):Calls prog 223 #[] w λe w'=>e=.returned (.slice (some ⟨w.heap.size+1+1,0,none⟩) 8 8)/\
 ((w.alloc (.cells #[.int .i64 4096] 3)).alloc (.cells #[.int .i64 65536] 3)).alloc (.cells (Zt w.heap.size) 266)=w':=by
 go_enter func223,ntmps223
 go_wp2_with (go_at_call 302;refine(NK _ _).mono ?_;rintro e w' ⟨rfl,rfl⟩)
 go_ret;exact⟨rfl,rfl⟩
def Tt(k:Int)(w:World)(e:Ending)(w':World):Prop:=
 ∃mv,e=.returned (.tuple #[.agg #[.string (Xq k),.int .u32 (YY k),mv],.bool true])/\cP w' (yX k) mv/\Below w.heap.size w w'
theorem aq7(w:World):Calls prog 143 #[.int .i64 1] w (Tt 1 w):=by
 have a0:(Zt (w.heap.size+1))[0]? =some (.string ⟨#[107,105,108,108]⟩):=rfl;have a1:(Zt (w.heap.size+1))[1]? =some (.int .u32 2147483648):=rfl;have a2:(Zt (w.heap.size+1))[2]? =some (.nilFunc):=rfl;go_enter func143,ntmps143
 go_wp2_with (go_at_call 223;refine(WE _).mono ?_;rintro e w' ⟨rfl,rfl⟩)
 refine aaf (v:=.tuple #[.agg #[.string ⟨#[107,105,108,108]⟩,.int .u32 2147483648,.nilFunc],.bool true]) (by simp[results,Tryz.results143,go_sem]) rfl ⟨.nilFunc,rfl,rfl,((((aG _ w).alloc (aP _) _).alloc jS _).alloc (by simp;omega) _).alloc (by simp;omega) _⟩
theorem aq8(w:World):Calls prog 143 #[.int .i64 2] w (Tt 2 w):=by
 have a0:(Zt (w.heap.size+1))[3]? =some (.string ⟨#[107,105,108,108,95,116,104,114,101,97,100]⟩):=rfl;have a1:(Zt (w.heap.size+1))[4]? =some (.int .u32 0):=rfl;have a2:(Zt (w.heap.size+1))[5]? =some (.nilFunc):=rfl;go_enter func143,ntmps143
 go_wp2_with (go_at_call 223;refine(WE _).mono ?_;rintro e w' ⟨rfl,rfl⟩)
 refine aaf (v:=.tuple #[.agg #[.string ⟨#[107,105,108,108,95,116,104,114,101,97,100]⟩,.int .u32 0,.nilFunc],.bool true]) (by simp[results,Tryz.results143,go_sem]) rfl ⟨.nilFunc,rfl,rfl,((((aG _ w).alloc (aP _) _).alloc jS _).alloc (by simp;omega) _).alloc (by simp;omega) _⟩
theorem aq9(w:World):Calls prog 143 #[.int .i64 3] w (Tt 3 w):=by
 have a0:(Zt (w.heap.size+1))[6]? =some (.string ⟨#[116,114,97,112]⟩):=rfl;have a1:(Zt (w.heap.size+1))[7]? =some (.int .u32 196608):=rfl;have a2:(Zt (w.heap.size+1))[8]? =some (.nilFunc):=rfl;go_enter func143,ntmps143
 go_wp2_with (go_at_call 223;refine(WE _).mono ?_;rintro e w' ⟨rfl,rfl⟩)
 refine aaf (v:=.tuple #[.agg #[.string ⟨#[116,114,97,112]⟩,.int .u32 196608,.nilFunc],.bool true]) (by simp[results,Tryz.results143,go_sem]) rfl ⟨.nilFunc,rfl,rfl,((((aG _ w).alloc (aP _) _).alloc jS _).alloc (by simp;omega) _).alloc (by simp;omega) _⟩
theorem ar0(w:World):Calls prog 143 #[.int .i64 4] w (Tt 4 w):=by
 have a0:(Zt (w.heap.size+1))[9]? =some (.string ⟨#[101,114,114,110,111]⟩):=rfl;have a1:(Zt (w.heap.size+1))[10]? =some (.int .u32 327680):=rfl;have a2:(Zt (w.heap.size+1))[11]? =some (.func (.func 344) #[] #[.pointer (some ⟨w.heap.size+1,0,none⟩)]):=rfl;go_enter func143,ntmps143
 go_wp2_with (go_at_call 223;refine(WE _).mono ?_;rintro e w' ⟨rfl,rfl⟩)
 refine aaf (v:=.tuple #[.agg #[.string ⟨#[101,114,114,110,111]⟩,.int .u32 327680,.func (.func 344) #[] #[.pointer (some ⟨w.heap.size+1,0,none⟩)]],.bool true]) (by simp[results,Tryz.results143,go_sem]) rfl ⟨.func (.func 344) #[] #[.pointer (some ⟨w.heap.size+1,0,none⟩)],rfl,⟨w.heap.size+1,rfl,by have:=((Z8.new (w.alloc (.cells #[.string ⟨#[101,114,114,110,111]⟩,.int .u32 327680,.func (.func 344) #[] #[.pointer (some ⟨w.heap.size+1,0,none⟩)]] 266)) 3 #[.int .i64 4096]).alloc (.cells #[.int .i64 65536] 3)).alloc (.cells (Zt (w.heap.size+1)) 266);simp only[ai] at this;exact this⟩,((((aG _ w).alloc (aP _) _).alloc jS _).alloc (by simp;omega) _).alloc (by simp;omega) _⟩
theorem cO(w:World):Calls prog 143 #[.int .i64 5] w (Tt 5 w):=by
 have a0:(Zt (w.heap.size+1))[12]? =some (.string ⟨#[110,111,116,105,102,121]⟩):=rfl;have a1:(Zt (w.heap.size+1))[13]? =some (.int .u32 2143289344):=rfl;have a2:(Zt (w.heap.size+1))[14]? =some (.nilFunc):=rfl;go_enter func143,ntmps143
 go_wp2_with (go_at_call 223;refine(WE _).mono ?_;rintro e w' ⟨rfl,rfl⟩)
 refine aaf (v:=.tuple #[.agg #[.string ⟨#[110,111,116,105,102,121]⟩,.int .u32 2143289344,.nilFunc],.bool true]) (by simp[results,Tryz.results143,go_sem]) rfl ⟨.nilFunc,rfl,rfl,((((aG _ w).alloc (aP _) _).alloc jS _).alloc (by simp;omega) _).alloc (by simp;omega) _⟩
theorem rR(w:World):Calls prog 143 #[.int .i64 6] w (Tt 6 w):=by
 have a0:(Zt (w.heap.size+1))[15]? =some (.string ⟨#[116,114,97,99,101]⟩):=rfl;have a1:(Zt (w.heap.size+1))[16]? =some (.int .u32 2146435072):=rfl;have a2:(Zt (w.heap.size+1))[17]? =some (.func (.func 344) #[] #[.pointer (some ⟨w.heap.size+1+1,0,none⟩)]):=rfl;go_enter func143,ntmps143
 go_wp2_with (go_at_call 223;refine(WE _).mono ?_;rintro e w' ⟨rfl,rfl⟩)
 refine aaf (v:=.tuple #[.agg #[.string ⟨#[116,114,97,99,101]⟩,.int .u32 2146435072,.func (.func 344) #[] #[.pointer (some ⟨w.heap.size+1+1,0,none⟩)]],.bool true]) (by simp[results,Tryz.results143,go_sem]) rfl ⟨.func (.func 344) #[] #[.pointer (some ⟨w.heap.size+1+1,0,none⟩)],rfl,⟨w.heap.size+1+1,rfl,by have:=(Z8.new ((w.alloc (.cells #[.string ⟨#[116,114,97,99,101]⟩,.int .u32 2146435072,.func (.func 344) #[] #[.pointer (some ⟨w.heap.size+1+1,0,none⟩)]] 266)).alloc (.cells #[.int .i64 4096] 3)) 3 #[.int .i64 65536]).alloc (.cells (Zt (w.heap.size+1)) 266);simp only[ai] at this;exact this⟩,((((aG _ w).alloc (aP _) _).alloc jS _).alloc (by simp;omega) _).alloc (by simp;omega) _⟩
theorem ar1(w:World):Calls prog 143 #[.int .i64 7] w (Tt 7 w):=by
 have a0:(Zt (w.heap.size+1))[18]? =some (.string ⟨#[108,111,103]⟩):=rfl;have a1:(Zt (w.heap.size+1))[19]? =some (.int .u32 2147221504):=rfl;have a2:(Zt (w.heap.size+1))[20]? =some (.nilFunc):=rfl;go_enter func143,ntmps143
 go_wp2_with (go_at_call 223;refine(WE _).mono ?_;rintro e w' ⟨rfl,rfl⟩)
 refine aaf (v:=.tuple #[.agg #[.string ⟨#[108,111,103]⟩,.int .u32 2147221504,.nilFunc],.bool true]) (by simp[results,Tryz.results143,go_sem]) rfl ⟨.nilFunc,rfl,rfl,((((aG _ w).alloc (aP _) _).alloc jS _).alloc (by simp;omega) _).alloc (by simp;omega) _⟩
theorem ar2(w:World):Calls prog 143 #[.int .i64 8] w (Tt 8 w):=by
 have a0:(Zt (w.heap.size+1))[21]? =some (.string ⟨#[97,108,108,111,119]⟩):=rfl;have a1:(Zt (w.heap.size+1))[22]? =some (.int .u32 2147418112):=rfl;have a2:(Zt (w.heap.size+1))[23]? =some (.nilFunc):=rfl;go_enter func143,ntmps143
 go_wp2_with (go_at_call 223;refine(WE _).mono ?_;rintro e w' ⟨rfl,rfl⟩)
 refine aaf (v:=.tuple #[.agg #[.string ⟨#[97,108,108,111,119]⟩,.int .u32 2147418112,.nilFunc],.bool true]) (by simp[results,Tryz.results143,go_sem]) rfl ⟨.nilFunc,rfl,rfl,((((aG _ w).alloc (aP _) _).alloc jS _).alloc (by simp;omega) _).alloc (by simp;omega) _⟩
end Go.Proofs.YtclgigmgbebhgaaGreatDoor.Yo
namespace Go.Proofs.YtclgigmgbebhgaaGreatDoor
open Tryz
open Go
section
variable {P:Program}
theorem QL(w:World)(d:Nat)(t:TypeId){ps rs:Array TypeId}{v:Bool}(h:P.underlying t=some (.func ps rs v)):(Op.equalIn (d+1) t .nilFunc .nilFunc).run P w=.ok true w:=by
 simp[Op.equalIn,akd h]
theorem RH(w:World)(d:Nat)(t:TypeId){ps rs:Array TypeId}{v:Bool}(fn:Fn)(a c:Array Value)(h:P.underlying t=some (.func ps rs v)):(Op.equalIn (d+1) t (.func fn a c) .nilFunc).run P w=.ok false w:=by
 simp[Op.equalIn,akd h]
theorem L0(w:World)(t:TypeId){ps rs:Array TypeId}{v:Bool}(h:P.underlying t=some (.func ps rs v)):(binOp .eql t .nilFunc .nilFunc).run P w=.ok (.bool true) w:=by
 simp only[binOp];simp[Op.equal,Op.maxDepth,QL w 9999 t h]
theorem Nr(w:World)(t:TypeId){ps rs:Array TypeId}{v:Bool}(fn:Fn)(a c:Array Value)(h:P.underlying t=some (.func ps rs v)):(binOp .eql t (.func fn a c) .nilFunc).run P w=.ok (.bool false) w:=by
 simp only[binOp];simp[Op.equal,Op.maxDepth,RH w 9999 t fn a c h]
end
end Go.Proofs.YtclgigmgbebhgaaGreatDoor
namespace Go.Proofs.YtclgigmgbebhgaaGreatDoor.Yo
open Tryz
open Go Go.Proofs Go.RowKit
theorem cN{n:Nat}{w W:World}(h:Below n w W)(k:Nat):Below n w (W.drewN k):=⟨h.os,h.tape,h.output,h.size,h.block⟩
theorem JI(s:ByteArray)(c:Int)(w:World):Calls prog 203 #[.agg #[.string s,.int .u32 c,.nilFunc]] w λe w'=>e=.returned (.int .i64 0)/\Below w.heap.size w w':=by
 have A:=λW=>L0 (P:=prog) W 145 underlying145
 go_enter func203,ntmps203;go_wp2;go_ret;exact⟨rfl,(aG _ w).alloc (aP _) _⟩
theorem JH(s:ByteArray)(c n:Int)(B:Nat)(w:World)(C:Z8 w B 3 #[.int .i64 (n+1)])(D:0<=n)(I:n<=100000):
 Calls prog 203 #[.agg #[.string s,.int .u32 c,.func (.func 344) #[] #[.pointer (some ⟨B,0,none⟩)]]] w λe w'=>e=.returned (.int .i64 n)/\Below w.heap.size w w':=by
 have A:=C.alloc (.cells #[.string s,.int .u32 c,.func (.func 344) #[] #[.pointer (some ⟨B,0,none⟩)]] 266);have hc:=Cc B n _ A D I;have J:=aT hc;clear hc A C;have T:=λW fn a c=>Nr (P:=prog) W 145 fn a c underlying145
 go_enter func203,ntmps203
 go_wp2_with (go_at_call 344;refine(J).mono ?_;rintro e w' ⟨rfl,rfl⟩)
 go_ret;exact⟨rfl,(aG _ w).alloc (aP _) _⟩
theorem GI(k:Int)(C:1<=k)(A:k<=8)(w:World):Calls prog 143 #[.int .i64 k] w (Tt k w):=by
 have h:k=1\/k=2\/k=3\/k=4\/k=5\/k=6\/k=7\/k=8:=jO;rcases h with rfl|rfl|rfl|rfl|rfl|rfl|rfl|rfl;·exact aq7 w
 ·exact aq8 w
 ·exact aq9 w
 ·exact ar0 w
 ·exact cO w
 ·exact rR w
 ·exact ar1 w
 ·exact ar2 w
theorem kX(k:Int)(h:k<1\/8<k)(w:World):Calls prog 143 #[.int .i64 k] w λe w'=>e=.returned (.tuple #[.agg #[.string ⟨#[]⟩,.int .u32 0,.nilFunc],.bool false])/\Below w.heap.size w w':=by
 rcases h with h|h
 all_goals
  go_enter func143,ntmps143
  go_wp2_with (go_at_call 223;refine(WE _).mono ?_;rintro e w' ⟨rfl,rfl⟩)
  refine aaf (v:=.tuple #[.agg #[.string ⟨#[]⟩,.int .u32 0,.nilFunc],.bool false]) (by simp[results,Tryz.results143,go_sem]) rfl ⟨rfl,?_⟩;exact((((aG _ w).alloc (aP _) _).alloc jS _).alloc (by simp;omega) _).alloc (by simp;omega) _
theorem KM(k:Int)(D:1<=k)(A:k<=8)(J:k≠4)(I:k≠6)(w:World):
 Calls prog 143 #[.int .i64 k] w λe w'=>e=.returned (.tuple #[.agg #[.string (Xq k),.int .u32 (YY k),.nilFunc],.bool true])/\Below w.heap.size w w':=
 (GI k D A w).mono λe w' ⟨T,C,hm,hb⟩=>by unfold yX at hm;rw[aN J,aN I] at hm;cases hm;exact⟨C,hb⟩
theorem Cb(k:Int)(hk:k=4\/k=6)(w:World):
 Calls prog 143 #[.int .i64 k] w λe w'=>∃B,e=.returned (.tuple #[.agg #[.string (Xq k),.int .u32 (YY k),.func (.func 344) #[] #[.pointer (some ⟨B,0,none⟩)]],.bool true])/\Z8 w' B 3 #[.int .i64 (YE k+1)]/\Below w.heap.size w w':=
 (GI k jO jO w).mono λe w' ⟨D,C,hm,hb⟩=>by
   rcases hk with rfl|rfl;·obtain⟨B,rfl,A⟩:=hm;exact⟨B,C,A,hb⟩
   ·obtain⟨B,rfl,A⟩:=hm;exact⟨B,C,A,hb⟩
theorem Ca(k n:Int)(h:k<1\/8<k)(w:World):Calls prog 123 #[.agg #[.int .i64 k,.int .i64 n]] w λe w'=>e=.returned (.bool false)/\Below w.heap.size w w':=by
 go_enter func123,ntmps123
 go_wp2_with (go_at_call 143;refine(kX k h _).mono ?_;rintro e D ⟨rfl,C⟩)
 go_quiet (fail);go_wp2;go_ret;have A:Below w.heap.size w D:=((aG _ w).alloc (aP _) _).trans (C.mono jS);exact⟨rfl,cN (A.alloc A.size _) _⟩
theorem LZ(k n:Int)(J:1<=k)(I:k<=8)(Y:k≠4)(T:k≠6)(hn:n<0)(w:World):Calls prog 123 #[.agg #[.int .i64 k,.int .i64 n]] w λe w'=>e=.returned (.bool false)/\Below w.heap.size w w':=by
 have hd:decide (0<=n)=false:=by simpa using hn
 go_enter func123,ntmps123
 go_wp2_with (go_at_call 143;refine(KM k J I Y T _).mono ?_;rintro e U ⟨rfl,C⟩)
 have D:=(((Z8.new w 48 #[.int .i64 k,.int .i64 n]).below C jS).alloc (.cells #[.string (Xq k),.int .u32 (YY k),.nilFunc] 266)).cell 1;simp only[ak,aL,aF] at D;go_quiet (fail);go_wp2;go_ret;have A:Below w.heap.size w U:=((aG _ w).alloc (aP _) _).trans (C.mono jS);exact⟨rfl,cN (A.alloc A.size _) _⟩
theorem Ed(k n:Int)(Y:1<=k)(U:k<=8)(h4:k≠4)(Z:k≠6)(hn:0<=n)(w:World):Calls prog 123 #[.agg #[.int .i64 k,.int .i64 n]] w λe w'=>e=.returned (.bool (decide (n<=0)))/\Below w.heap.size w w':=by
 have hd:decide (0<=n)=true:=by simpa using hn
 go_enter func123,ntmps123
 go_wp2_with (go_at_call 143;refine(KM k Y U h4 Z _).mono ?_;rintro e I ⟨rfl,C⟩)
 have J:=C.size;simp at J;have T:=(((Z8.new w 48 #[.int .i64 k,.int .i64 n]).below C jS).alloc (.cells #[.string (Xq k),.int .u32 (YY k),.nilFunc] 266)).cell 1;simp only[ak,aL,aF] at T
 go_region_held3 (λw'=>w'.cell? ⟨w.heap.size,1,none⟩=some (.int .i64 n)/\w'.cell? ⟨I.heap.size,0,none⟩=some (.string (Xq k))/\w'.cell? ⟨I.heap.size,1,none⟩=some (.int .u32 (YY k))/\w'.cell? ⟨I.heap.size,2,none⟩=some .nilFunc) (first|go_keep|exact⟨cell_later A (by first|assumption|simp),cell_later A (by first|assumption|simp),cell_later A (by first|assumption|simp),cell_later A (by first|assumption|simp)⟩) (first|(go_at_call 203;refine(JI _ _ _).mono ?_;rintro e w2 ⟨rfl,A⟩))
 go_wp2;go_ret;have D:Below w.heap.size w I:=((aG _ w).alloc (aP _) _).trans (C.mono jS);exact⟨rfl,(D.alloc D.size _).drew.trans (A.mono (by simp;omega))⟩
theorem JG(k n:Int)(hk:k=4\/k=6)(hn:n<0)(w:World):Calls prog 123 #[.agg #[.int .i64 k,.int .i64 n]] w λe w'=>e=.returned (.bool false)/\Below w.heap.size w w':=by
 have hd:decide (0<=n)=false:=by simpa using hn
 have I:=aT hk;clear hk;go_enter func123,ntmps123
 go_wp2_with (go_at_call 143;refine(Cb k I _).mono ?_;rintro e J ⟨B,rfl,T,C⟩)
 have D:=(((Z8.new w 48 #[.int .i64 k,.int .i64 n]).below C jS).alloc (.cells #[.string (Xq k),.int .u32 (YY k),.func (.func 344) #[] #[.pointer (some ⟨B,0,none⟩)]] 266)).cell 1;simp only[ak,aL,aF] at D;go_quiet (fail);go_wp2;go_ret;have A:Below w.heap.size w J:=((aG _ w).alloc (aP _) _).trans (C.mono jS);exact⟨rfl,cN (A.alloc A.size _) _⟩
theorem wJ(k n:Int)(hk:k=4\/k=6)(hn:0<=n)(w:World):Calls prog 123 #[.agg #[.int .i64 k,.int .i64 n]] w λe w'=>e=.returned (.bool (decide (n<=YE k)))/\Below w.heap.size w w':=by
 have hd:decide (0<=n)=true:=by simpa using hn
 have Z:0<=YE k:=by rcases hk with rfl|rfl<;>decide
 have g1:YE k<=100000:=by rcases hk with rfl|rfl<;>decide
 generalize hg:YE k=g at Z g1;have Hg:=aT hg;have Hk:=aT hk;clear hk hg;go_enter func123,ntmps123
 go_wp2_with (go_at_call 143;refine(Cb k Hk _).mono ?_;rintro e J ⟨B,rfl,Y,C⟩)
 rw[Hg.out] at Y;have U:=(((Z8.new w 48 #[.int .i64 k,.int .i64 n]).below C jS).alloc (.cells #[.string (Xq k),.int .u32 (YY k),.func (.func 344) #[] #[.pointer (some ⟨B,0,none⟩)]] 266)).cell 1;simp only[ak,aL,aF] at U;have T:=C.size;simp at T;have I:=Y.alloc (.cells #[.string (Xq k),.int .u32 (YY k),.func (.func 344) #[] #[.pointer (some ⟨B,0,none⟩)]] 266);have HB:=aT I;clear I Y
 go_region_held3 (λw'=>w'.cell? ⟨w.heap.size,1,none⟩=some (.int .i64 n)/\w'.cell? ⟨J.heap.size,0,none⟩=some (.string (Xq k))/\w'.cell? ⟨J.heap.size,1,none⟩=some (.int .u32 (YY k))/\w'.cell? ⟨J.heap.size,2,none⟩=some (.func (.func 344) #[] #[.pointer (some ⟨B,0,none⟩)])) (first|go_keep|exact⟨cell_later A (by first|assumption|simp),cell_later A (by first|assumption|simp),cell_later A (by first|assumption|simp),cell_later A (by first|assumption|simp)⟩) (first|(go_at_call 203;refine(JH _ _ g B _ (by exact HB) Z g1).mono ?_;rintro e w2 ⟨rfl,A⟩))
 go_wp2;go_ret;have D:Below w.heap.size w J:=((aG _ w).alloc (aP _) _).trans (C.mono jS);exact⟨rfl,(D.alloc D.size _).drew.trans (A.mono (by simp;omega))⟩
theorem XQ(k n:Int)(w:World):Calls prog 123 #[.agg #[.int .i64 k,.int .i64 n]] w λe w'=>e=.returned (.bool (Zw k n))/\Below w.heap.size w w':=by
 unfold Zw;by_cases hk:1<=k/\k<=8
 ·obtain⟨I,D⟩:=hk;by_cases A:k=4\/k=6
  ·by_cases hn:0<=n
   ·refine(wJ k n A hn w).mono λe w' ⟨C,hb⟩=>⟨C.trans (G8 ?_),hb⟩
    simp[I,D,hn]
   ·refine(JG k n A jO w).mono λe w' ⟨C,hb⟩=>⟨C.trans (G8 ?_),hb⟩
    simp[hn]
  ·have e0:YE k=0:=by unfold YE;rw[aN (λh=>A (.inl h)),aN (λh=>A (.inr h))]
   by_cases hn:0<=n
   ·refine(Ed k n I D (λh=>A (.inl h)) (λh=>A (.inr h)) hn w).mono λe w' ⟨C,hb⟩=>⟨C.trans (G8 ?_),hb⟩
    simp[I,D,hn,e0]
   ·refine(LZ k n I D (λh=>A (.inl h)) (λh=>A (.inr h)) jO w).mono λe w' ⟨C,hb⟩=>⟨C.trans (G8 ?_),hb⟩
    simp[hn]
 ·refine(Ca k n jO w).mono λe w' ⟨C,hb⟩=>⟨C.trans (G8 ?_),hb⟩
  simp;omega
theorem RF(k n:Int)(hr:Zw k n=true):0<=YY k+n/\YY k+n<4294967296/\0<=n/\n<=65535/\1<=k/\k<=8/\0<=YY k/\YY k<=2147483648:=by
 unfold Zw at hr;simp only[adg] at hr;obtain⟨I,C,D,A⟩:=hr;have h:k=1\/k=2\/k=3\/k=4\/k=5\/k=6\/k=7\/k=8:=jO;rcases h with rfl|rfl|rfl|rfl|rfl|rfl|rfl|rfl<;>simp[YE,YY] at*<;>omega
theorem B8(k n:Int)(hr:Zw k n=true)(h4:k≠4)(Y:k≠6)(w:World):Calls prog 90 #[.agg #[.int .i64 k,.int .i64 n]] w λe w'=>e=.returned (.tuple #[.int .u32 (YY k+n),.int .i64 0])/\Below w.heap.size w w':=by
 have hc:=XQ k n;obtain⟨c0,c1,n0,n1,U,T,d0,d1⟩:=RF k n hr;rw[hr] at hc;have Z:=aT hc;clear hc hr;go_enter func90,ntmps90
 go_wp2_with (first|(go_at_call 123;refine(Z _).mono ?_;rintro e w1 ⟨rfl,A⟩;have J:=(((Z8.new w 48 #[.int .i64 k,.int .i64 n]).below A jS)).cell 0;have I:=(((Z8.new w 48 #[.int .i64 k,.int .i64 n]).below A jS)).cell 1;have s1:=A.size;simp only[ak,aL,aF] at J I;simp at s1)|(go_at_call 143;refine(KM k U T h4 Y _).mono ?_;rintro e w2 ⟨rfl,C⟩;have D:=((((Z8.new w 48 #[.int .i64 k,.int .i64 n]).below A jS).below C jO).alloc (.cells #[.string (Xq k),.int .u32 (YY k),.nilFunc] 266)).cell 1;simp only[ak,aL,aF] at D;have s2:=C.size))
 go_ret2;exact⟨rfl,(((((aG _ w).alloc (aP _) _).trans (A.mono jS)).trans (C.mono jO)).alloc jO _)⟩
theorem rQ(k n:Int)(hr:Zw k n=true)(hk:k=4\/k=6)(w:World):Calls prog 90 #[.agg #[.int .i64 k,.int .i64 n]] w λe w'=>e=.returned (.tuple #[.int .u32 (YY k+n),.int .i64 0])/\Below w.heap.size w w':=by
 have hc:=XQ k n;obtain⟨c0,c1,n0,n1,k1,Y,d0,d1⟩:=RF k n hr;rw[hr] at hc;have U:=aT hc;clear hc hr;have T:=aT hk;clear hk;go_enter func90,ntmps90
 go_wp2_with (first|(go_at_call 123;refine(U _).mono ?_;rintro e Z ⟨rfl,A⟩;have J:=(((Z8.new w 48 #[.int .i64 k,.int .i64 n]).below A jS)).cell 0;have I:=(((Z8.new w 48 #[.int .i64 k,.int .i64 n]).below A jS)).cell 1;have s1:=A.size;simp only[ak,aL,aF] at J I;simp at s1)|(go_at_call 143;refine(Cb k T _).mono ?_;rintro e w2 ⟨B,rfl,hB,C⟩;have D:=((((Z8.new w 48 #[.int .i64 k,.int .i64 n]).below A jS).below C jO).alloc (.cells #[.string (Xq k),.int .u32 (YY k),.func (.func 344) #[] #[.pointer (some ⟨B,0,none⟩)]] 266)).cell 1;simp only[ak,aL,aF] at D;have s2:=C.size))
 go_ret2;exact⟨rfl,(((((aG _ w).alloc (aP _) _).trans (A.mono jS)).trans (C.mono jO)).alloc jO _)⟩
end Go.Proofs.YtclgigmgbebhgaaGreatDoor.Yo
namespace Go.Proofs.YtclgigmgbebhgaaGreatDoor
open Tryz
open Go Go.Proofs Go.RowKit
variable {a m:Nat}
def WD(l:List Z4.Z0)(r:NR):Bool:=RI l r.nm&&decide (0<r.cs.length)
theorem JE{N L c:Nat}{a:Option Addr}{rs:List NR}{k n:Int}{x:Bool}(sv:Value)(l:List Z4.Z0)(hL:rs.length=L)(XA:L<=1000000)(w:World)(h:UM N w a rs)(hN:N<=w.heap.size)(T:l.length<=1000000)(hR:Z4.VS w sv l)(hT:Z4.Zv l):
 Calls prog 35 #[.agg #[.int .i64 k,.int .i64 n,.bool x,.slice a L c],sv] w λe w'=>∃z:Int,e=.returned (.tuple #[.int .i64 z,.bool (!rs.any (WD l))])/\Below w.heap.size w w':=by
 obtain⟨sa,sc,rfl,-⟩:=id hR;obtain⟨sv,hsv⟩:∃v:Value,Value.slice sa l.length sc=v:=⟨_,rfl⟩;rw[hsv] at hR ⊢;obtain⟨qs,D,Y,J⟩:=h.rows;have A:=JK w (.cells #[.int .i64 k,.int .i64 n,.bool x,.slice a L c] V1) (.cells #[sv] 41);have HP:=aT ((Z8.new w V1 #[.int .i64 k,.int .i64 n,.bool x,.slice a L c]).alloc (.cells #[sv] 41));have HS:=aT (Z8.OE w (.cells #[.int .i64 k,.int .i64 n,.bool x,.slice a L c] V1) 41 #[sv]);have C:(List.range L).any (λi=>match rs[i]? with|some r=>WD l r|none=>false)=rs.any (WD l):=by
  rw[ale,akg,akg];constructor
  ·rintro⟨i,hi,e⟩;cases hr:rs[i]? with
   |none=>rw[hr] at e;cases e
   |some r=>rw[hr] at e;exact⟨r,ag hr,e⟩
  ·rintro⟨r,hr,e⟩;obtain⟨i,hi,rfl⟩:=ahd.1 hr;refine⟨i,aib.2 jO,?_⟩;rw[aM hi];exact e
 have Z:=A.size;have hc:=Er (c:=c) (λi=>match rs[i]? with|some r=>WD l r|none=>false) 84 #[.pointer (some ⟨w.heap.size+1,0,none⟩)] (enters_of func84 jK rfl) (D.trans hL) XA ((w.alloc (.cells #[.int .i64 k,.int .i64 n,.bool x,.slice a L c] V1)).alloc (.cells #[sv] 41)) (λi q hq=>by
  obtain⟨g,off,h1,U,h3,h4,h5,h6⟩:=Y i q hq;exact⟨g,off,h1,U,ZZ A hN U h3,ZZ A hN U h4,ZZ A hN U h5,ZZ A hN U h6⟩) (aO hN Z) (λW i q hb hq=>by
  have hi:i<rs.length:=by have:=(aq.1 hq).1;omega
  obtain⟨r,hr⟩:∃r,rs[i]? =some r:=⟨_,aM hi⟩;obtain⟨h1,_,_,h4⟩:=J i q r hq hr;have e:(match rs[i]? with|some r=>WD l r|none=>false)=(RI l q.nm&&decide (0<r.cs.length)):=by rw[hr,h1];rfl
  rw[e];obtain⟨ua,uc,e2,_⟩:=h4;rw[e2];have hk:Below w.heap.size w W:=A.trans (hb.mono Z);exact wK sv l W T (hR.below hk) hT (HS.below hb HS.lt))
 rw[C] at hc;have HC:=aT hc;have HB:=aT A;clear hc C D Y J h hR hT HS A;subst hsv;generalize rs.any (WD l)=b at*;go_enter func35,ntmps35;go_upto_region 1 with fail;generalize (w.alloc (.cells #[.int .i64 k,.int .i64 n,.bool x,.slice a L c] V1)).alloc (.cells #[.slice sa l.length sc] 41)=w2 at*;obtain⟨⟨_,_,_,p3⟩,_⟩:=Z7 HP;go_wp2_with fail;refine HC.mono ?_;rintro e w3 ⟨z,rfl,hz,hz1,hb3⟩;have I:=aT (HB.trans (hb3.mono HB.size));clear hb3;cases b with
 |false=>
  have hz2:z<0:=by have:=ara hz;omega
  clear hz;go_wp2_with fail;go_ret2;exact⟨max z 0,by simp[hz2],I⟩
 |true=>
  have hz2:0<=z:=ahf hz;have hz3:¬z<0:=jO;clear hz;go_wp2_with fail;go_ret2;exact⟨max z 0,by simp[hz3],I⟩
def Yf(k n:Int):Nat:=(Yo.YY k+n).toNat
theorem KL{k n:Int}(h:Yo.Zw k n=true):Yf k n<4294967296/\((Yf k n:Nat):Int)=Yo.YY k+n:=by
 obtain⟨c0,c1,n0,n1,I,A,D,C⟩:=Yo.RF k n h;unfold Yf;omega
theorem Ec(k n:Int)(hr:Yo.Zw k n=true)(w:World):Calls prog 90 #[.agg #[.int .i64 k,.int .i64 n]] w λe w'=>e=.returned (.tuple #[.int .u32 (Yo.YY k+n),.int .i64 0])/\Below w.heap.size w w':=by
 by_cases hk:k=4\/k=6;·exact Yo.rQ k n hr hk w
 ·exact Yo.B8 k n hr (λh=>hk (.inl h)) (λh=>hk (.inr h)) w
theorem IX(k n:Int)(hr:Yo.Zw k n=true)(w:World):Calls prog 37 #[.agg #[.int .i64 k,.int .i64 n]] w λe w'=>e=.returned (.int .u32 (Yf k n:Int))/\Below w.heap.size w w':=by
 have D:=(KL hr).2;have hb:=Yk w (.cells #[.int .i64 k,.int .i64 n] 48);have C:=aT (Ec k n hr (w.alloc (.cells #[.int .i64 k,.int .i64 n] 48)));rw[<-D] at C;generalize Yf k n=cd at*;have I:=aT hb;clear D hb hr;have J:=aT (Z8.new w 48 #[.int .i64 k,.int .i64 n]);go_enter func37,ntmps37;go_upto_region 1 with fail;generalize w.alloc (.cells #[.int .i64 k,.int .i64 n] 48)=w1 at*;obtain⟨p0,p1⟩:=J.q2;go_wp2_with fail;refine C.mono ?_;rintro e T ⟨rfl,hb⟩;have A:=aT (I.trans (hb.mono I.size));clear hb;go_wp2_with fail;go_ret;exact⟨rfl,A⟩
abbrev Xp:=Nat×List Z3
theorem kW:(prog.info? OG).map (λi=>(i.zero,i.size,i.bytes))=some (some (.agg #[.int .u32 0,.slice none 0 0]),2,32):=jK
theorem kV:(prog.info? Oy).map (λi=>(i.zero,i.size,i.bytes))=some (some (.agg #[.int .u32 0,.int .u32 0]),2,8):=jK
structure Kept(lo P:Nat)(W W':World):Prop where
 Zs:Below lo W W'
 size:W.heap.size<=W'.heap.size
 keep:∀k t cs,Z8 W k t cs->t≠OG->t≠Oy->t≠Xy->Z8 W' k t cs
 yV:∀k cs,Z8 W k Xy cs->k≠P->Z8 W' k Xy cs
section
variable {lo P:Nat} {W W' W2:World}
theorem Kept.refl(lo P:Nat)(W:World):Kept lo P W W:=⟨aG _ _,aP _,λ_ _ _ h _ _ _=>h,λ_ _ h _=>h⟩
theorem Kept.trans(h:Kept lo P W W')(C:Kept lo P W' W2):Kept lo P W W2:=⟨h.Zs.trans C.Zs,aO h.size C.size,λk t cs hb A D I=>C.keep k t cs (h.keep k t cs hb A D I) A D I,λk cs hb A=>C.yV k cs (h.yV k cs hb A) A⟩
theorem Kept.Nq(A:lo<=W.heap.size)(hb:Below W.heap.size W W'):Kept lo P W W':=⟨hb.mono A,hb.size,λ_ _ _ h _ _ _=>h.below hb h.lt,λ_ _ h _=>h.below hb h.lt⟩
theorem Kept.drew(A:lo<=W.heap.size):Kept lo P W W.drew:=Kept.Nq A (aG _ _).drew
theorem Kept.grown{e s n:Nat}{v:Value}{xs:List Value}(I:lo<=W.heap.size)(hv:W.ownsRow lo e s v n xs)(U:e=OG\/e=Oy)(C:W.grownBy W' v.ownBlock):Kept lo P W W':=by
 have A:∀k t cs,Z8 W k t cs->t≠OG->t≠Oy->Z8 W' k t cs:=λk t cs hb J D=>hb.kept C (λe2=>by
  obtain⟨cs',T⟩:=Xr hv e2.symm;have:=TY hb T;rcases U with rfl|rfl;·exact J this
  ·exact D this)
 exact⟨(aG lo W).grown C I (λk e=>(hv.lt k e).1),C.size,λk t cs hb J D _=>A k t cs hb J D,λk cs hb _=>A k Xy cs hb jD jD⟩
theorem Kept.set{j:Nat}{u:Value}{cs:Array Value}(A:lo<=P)(hb:Z8 W P Xy cs):Kept lo P W (W.setCell ⟨P,j,none⟩ u):=by
 refine⟨(aG lo W).setCell (p:=⟨P,j,none⟩) A u,jS,λk t cs' hk C I D=>hk.other (λe=> ?_) j u,λk cs' hk C=>hk.other C j u⟩;subst e;exact D (TY hk hb)
theorem Kept.row{e s n b:Nat}{v:Value}{xs:List Value}(h:Kept lo P W W')(hv:W.ownsRow b e s v n xs)(J:e≠OG)(D:e≠Oy)(T:e≠Xy):W'.ownsRow b e s v n xs:=by
 refine⟨hv.1,?_⟩;rcases hv.2 with I|⟨g,cap,A,e1,e2,C,e3⟩;·exact .inl I
 ·exact .inr ⟨g,cap,A,e1,e2,h.keep g e A C J D T,e3⟩
theorem Kept.Ot{b:Nat}{v:Value}{rs:List Z3}{us:List Value}(h:Kept lo P W W')(A:Yi b W v rs us):Yi b W' v rs us:=
 ⟨A.len,h.row A.row jD jD jD,λj u r hu hr=>h.row (A.cs j u r hu hr) jD jD jD⟩
theorem Kept.YP{b:Nat}{v:Value}{rs:List NR}{us:List Value}(h:Kept lo P W W')(A:TZ b W v rs us):TZ b W' v rs us:=
 ⟨A.len,h.row A.row jD jD jD,λj u r hu hr=>h.row (A.cs j u r hu hr) jD jD jD⟩
end
structure kU(lo:Nat)(W:World)(v:Value)(es:List L3):Prop where
 row:W.ownsRow lo OG 2 v es.length (es.flatMap JJ)
 rs:∀x∈es,Yi lo W (.slice x.a x.m x.c) x.rs x.us
def RD(lo:Nat)(W:World)(v:Value)(l:List Xp):Prop:=∃es:List L3,es.map (λx=>(x.n,x.rs))=l/\kU lo W v es
def MS(lo:Nat)(W:World)(v:Value)(l:List (Nat×Nat)):Prop:=W.ownsRow lo Oy 2 v l.length (l.flatMap encS)
def Vj(d:Nat)(x:Bool)(ve vs:Nat->Value):Array Value:=#[.int .u32 d,.bool x,ve 0,ve 1,ve 2,ve 3,ve 4,vs 0,vs 1]
def Oq{α:Type}(f:Nat->α)(a:Nat)(u:α):Nat->α:=λb=>if b=a then u else f b
theorem XU{α:Type}(f:Nat->α)(a:Nat)(u:α):Oq f a u a=u:=aH rfl
theorem X9{α:Type}(f:Nat->α){b:Nat}(u:α)(h:b≠a):Oq f a u b=f b:=aN h
theorem LJ(d:Nat)(x:Bool)(ve vs:Nat->Value) (ha:a<5):(Vj d x ve vs)[2+a]? =some (ve a):=by
 rcases (show a=0\/a=1\/a=2\/a=3\/a=4 from jO) with rfl|rfl|rfl|rfl|rfl<;>rfl
theorem LI(d:Nat)(x:Bool)(ve vs:Nat->Value) (hm:m<2):(Vj d x ve vs)[7+m]? =some (vs m):=by
 rcases (show m=0\/m=1 from jO) with rfl|rfl<;>rfl
theorem B7(d:Nat)(x:Bool)(ve vs:Nat->Value) (ha:a<5)(u:Value):(Vj d x ve vs).setIfInBounds (2+a) u=Vj d x (Oq ve a u) vs:=by
 rcases (show a=0\/a=1\/a=2\/a=3\/a=4 from jO) with rfl|rfl|rfl|rfl|rfl<;>rfl
theorem BZ(d:Nat)(x:Bool)(ve vs:Nat->Value) (hm:m<2)(u:Value):(Vj d x ve vs).setIfInBounds (7+m) u=Vj d x ve (Oq vs m u):=by
 rcases (show m=0\/m=1 from jO) with rfl|rfl<;>rfl
structure Yy(lo P:Nat)(W:World)(d:Nat)(x:Bool)(ve vs:Nat->Value)(E:Nat->List Xp)(S:Nat->List (Nat×Nat)):Prop where
 blk:Z8 W P Xy (Vj d x ve vs)
 lw:lo<=P
 O8:∀a,a<5->RD lo W (ve a) (E a)
 subs:∀m,m<2->MS lo W (vs m) (S m)
 mZ:∀a b,a<5->b<5->a≠b->∀k,(ve a).ownBlock=some k->(ve b).ownBlock≠some k
 mY:∀a b,a<2->b<2->a≠b->∀k,(vs a).ownBlock=some k->(vs b).ownBlock≠some k
section
variable {lo P:Nat} {W W':World} {d:Nat} {x:Bool} {ve vs:Nat->Value} {E:Nat->List Xp} {S:Nat->List (Nat×Nat)}
theorem RD.Zs{v:Value}{l:List Xp}(h:RD lo W v l)(hb:Below W.heap.size W W'):RD lo W' v l:=by
 obtain⟨es,e,C,A⟩:=h;exact⟨es,e,ZF C hb,λx hx=>(A x hx).Zs hb⟩
theorem Yy.Zs(h:Yy lo P W d x ve vs E S)(hb:Below W.heap.size W W'):Yy lo P W' d x ve vs E S:=
 ⟨h.blk.below hb h.blk.lt,h.lw,λa ha=>(h.O8 a ha).Zs hb,λm hm=>ZF (h.subs m hm) hb,h.mZ,h.mY⟩
theorem Yy.lt(h:Yy lo P W d x ve vs E S):lo<=W.heap.size:=aO h.lw (acd h.blk.lt)
theorem Vi{e s n b k t:Nat}{v:Value}{xs:List Value}{cs:Array Value}(h:W.ownsRow b e s v n xs)(hb:Z8 W k t cs)(ht:e≠t):v.ownBlock≠some k:=λe2=>by
 obtain⟨cs',A⟩:=Xr h e2;exact ht (TY A hb)
theorem Yy.ar3(h:Yy lo P W d x ve vs E S){a:Nat}(ha:a<5){n:Nat}{va:Option Addr}{vm vc:Nat}{rs:List Z3}{us:List Value}(hr:Yi lo W (.slice va vm vc) rs us)(Y:W.grownBy W' (ve a).ownBlock)
 {v':Value} {xs:List Value} (hx:xs=[.int .u32 n,.slice va vm vc]) {es:List L3} (he:es.map (λx=>(x.n,x.rs))=E a) (U:kU lo W (ve a) es) (hO:W'.ownsRow lo OG 2 v' (es.length+1) (es.flatMap JJ++xs)) (J:v'.ownBlock=(ve a).ownBlock\/v'.ownBlock=some W.heap.size):
 Yy lo P (W'.setCell ⟨P,2+a,none⟩ v') d x (Oq ve a v') vs (Oq E a (E a++[(n,rs)])) S/\Kept lo P W (W'.setCell ⟨P,2+a,none⟩ v'):=by
 subst hx;have Z:Kept lo P W W':=Kept.grown h.lt U.row (.inl rfl) Y;have A:Z8 W' P Xy (Vj d x ve vs):=h.blk.kept Y (λe=>Vi U.row h.blk jD e.symm);have hS:Kept lo P W' (W'.setCell ⟨P,2+a,none⟩ v'):=Kept.set h.lw A;have T:∀{b:Nat},b<5->b≠a->RD lo (W'.setCell ⟨P,2+a,none⟩ v') (ve b) (E b):=λ{b} hb hne=>by
  obtain⟨I,e2,D,h2⟩:=h.O8 b hb;refine⟨I,e2,?_,λy hy=>hS.Ot (Z.Ot (h2 y hy))⟩;refine ZW (D.kept Y ?_) A jD _ _;cases hk:(ve a).ownBlock with
  |none=>cases (ve b).ownBlock<;>simp
  |some k=>exact .inr (h.mZ a b ha hb (ana hne) k hk)
 refine⟨⟨?_,h.lw,λb hb=> ?_,λm hm=> ?_,λb c hb hc C k hk=> ?_,h.mY⟩,Z.trans hS⟩;·have:=A.set (2+a) v';rwa [B7 d x ve vs ha] at this
 ·by_cases e:b=a
  ·subst e;rw[XU,XU];refine⟨es++[⟨n,va,vm,vc,rs,us⟩],by rw[adb,he];rfl,?_,λy hy=> ?_⟩;·rw[ay,aca];exact ZW hO A jD _ _
   ·rcases abe.1 hy with hy|hy;·exact hS.Ot (Z.Ot (U.rs y hy))
    ·rw[aaa.1 hy];exact hS.Ot (Z.Ot hr)
  ·rw[X9 _ _ e,X9 _ _ e];exact T hb e
 ·have D:=h.subs m hm;refine ZW (World.ownsRow.kept D Y ?_) A jD _ _;cases hk:(ve a).ownBlock with
  |none=>cases (vs m).ownBlock<;>simp
  |some k=>
   obtain⟨cs,hc⟩:=Xr U.row hk;exact .inr (Vi D hc jD)
 ·have old:∀{b:Nat},b<5->∀k,(ve b).ownBlock=some k->k<W.heap.size:=λ{b} hb k hk=>by
   obtain⟨I,_,D,_⟩:=h.O8 b hb;exact(D.lt k hk).2
  by_cases e:b=a
  ·subst e;rw[XU] at hk;rw[X9 _ _ (ana C)];rcases J with e2|e2
   ·rw[e2] at hk;exact h.mZ b c hb hc C k hk
   ·intro e3;have:=old hc k e3;rw[e2] at hk;cases hk;omega
  ·rw[X9 _ _ e] at hk;by_cases e2:c=a
   ·subst e2;rw[XU];rcases J with e3|e3
    ·rw[e3];exact h.mZ b c hb hc C k hk
    ·intro e4;have:=old hb k hk;rw[e3] at e4;cases e4;omega
   ·rw[X9 _ _ e2];exact h.mZ b c hb hc C k hk
theorem Yy.ar4(h:Yy lo P W d x ve vs E S){a:Nat}(ha:a<2){n c:Nat}(T:W.grownBy W' (vs a).ownBlock)
 {v':Value} {xs:List Value} (hx:xs=[.int .u32 n,.int .u32 c]) (hO:W'.ownsRow lo Oy 2 v' ((S a).length+1) ((S a).flatMap encS++xs)) (J:v'.ownBlock=(vs a).ownBlock\/v'.ownBlock=some W.heap.size):
 Yy lo P (W'.setCell ⟨P,7+a,none⟩ v') d x ve (Oq vs a v') E (Oq S a (S a++[(n,c)]))/\Kept lo P W (W'.setCell ⟨P,7+a,none⟩ v'):=by
 subst hx;have Z:=h.subs a ha;have D:W.ownsRow lo Oy 2 (vs a) (S a).length ((S a).flatMap encS):=Z;have Y:Kept lo P W W':=Kept.grown h.lt D (.inr rfl) T;have A:Z8 W' P Xy (Vj d x ve vs):=h.blk.kept T (λe=>Vi D h.blk jD e.symm);have hS:Kept lo P W' (W'.setCell ⟨P,7+a,none⟩ v'):=Kept.set h.lw A;refine⟨⟨?_,h.lw,λb hb=> ?_,λm hm=> ?_,h.mZ,λb c hb hc C k hk=> ?_⟩,Y.trans hS⟩;·have:=A.set (7+a) v';rwa [BZ d x ve vs ha] at this
 ·obtain⟨U,e2,I,h2⟩:=h.O8 b hb;refine⟨U,e2,?_,λy hy=>hS.Ot (Y.Ot (h2 y hy))⟩;refine ZW (I.kept T ?_) A jD _ _;cases hk:(vs a).ownBlock with
  |none=>cases (ve b).ownBlock<;>simp
  |some k=>
   obtain⟨cs,hc⟩:=Xr D hk;exact .inr (Vi I hc jD)
 ·by_cases e:m=a;·subst e;rw[XU,XU];show World.ownsRow _ _ _ _ _ _ _;rw[ay,aca];exact ZW hO A jD _ _
  ·rw[X9 _ _ e,X9 _ _ e];have I:W.ownsRow lo Oy 2 (vs m) (S m).length ((S m).flatMap encS):=h.subs m hm;refine ZW (I.kept T ?_) A jD _ _;cases hk:(vs a).ownBlock with
   |none=>cases (vs m).ownBlock<;>simp
   |some k=>exact .inr (h.mY a m ha hm (ana e) k hk)
 ·have old:∀{b:Nat},b<2->∀k,(vs b).ownBlock=some k->k<W.heap.size:=λ{b} hb k hk=>by
   have I:W.ownsRow lo Oy 2 (vs b) (S b).length ((S b).flatMap encS):=h.subs b hb;exact(I.lt k hk).2
  by_cases e:b=a
  ·subst e;rw[XU] at hk;rw[X9 _ _ (ana C)];rcases J with e2|e2
   ·rw[e2] at hk;exact h.mY b c hb hc C k hk
   ·intro e3;have:=old hc k e3;rw[e2] at hk;cases hk;omega
  ·rw[X9 _ _ e] at hk;by_cases e2:c=a
   ·subst e2;rw[XU];rcases J with e3|e3
    ·rw[e3];exact h.mY b c hb hc C k hk
    ·intro e4;have:=old hb k hk;rw[e3] at e4;cases e4;omega
   ·rw[X9 _ _ e2];exact h.mY b c hb hc C k hk
end
end Go.Proofs.YtclgigmgbebhgaaGreatDoor
