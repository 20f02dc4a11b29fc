/- TopOther: part 11: Act FnEq ActR TopRes9 TopRes10. -/
import Derived.Test.YtclgigmgbebhgaaGreatDoorO10
set_option linter.unusedVariables false
set_option linter.unusedSimpArgs false
set_option maxRecDepth 100000
set_option maxHeartbeats 16000000
namespace Go.Proofs.YtclgigmgbebhgaaGreatDoor.X7
open Tryz
open Go Go.Proofs Go.RowKit
def Xp(k:Int):ByteArray:=if k=1 then⟨#[107,105,108,108]⟩ else if k=2 then⟨#[107,105,108,108,95,116,104,114,101,97,100]⟩ else if k=3 then⟨#[116,114,97,112]⟩ else if k=4 then⟨#[101,114,114,110,111]⟩ else if k=5 then⟨#[110,111,116,105,102,121]⟩ else if k=6 then⟨#[116,114,97,99,101]⟩ else if k=7 then⟨#[108,111,103]⟩ else if k=8 then⟨#[97,108,108,111,119]⟩ else⟨#[]⟩
def YY(k:Int):Int:=if k=1 then 2147483648 else if k=2 then 0 else if k=3 then 196608 else if k=4 then 327680 else if k=5 then 2143289344 else if k=6 then 2146435072 else if k=7 then 2147221504 else if k=8 then 2147418112 else 0
def yI(k:Int):Option Int:=if k=4 then some 4095 else if k=6 then some 65535 else none
def YF(k:Int):Int:=if k=4 then 4095 else if k=6 then 65535 else 0
def Zc(k n:Int):Bool:=decide (1<=k/\k<=8/\0<=n/\n<=YF k)
def bO(W:World)(m:Option Int)(v:Value):Prop:=
 match m with
 |none=>v=.nilFunc
 |some n=>∃B,v=.func (.func 344) #[] #[.pointer (some ⟨B,0,none⟩)]/\Z7 W B 3 #[.int .i64 (n+1)]
def Zu(s:Nat):Array Value:=#[.string ⟨#[107,105,108,108]⟩,.int .u32 2147483648,.nilFunc,.string ⟨#[107,105,108,108,95,116,104,114,101,97,100]⟩,.int .u32 0,.nilFunc,.string ⟨#[116,114,97,112]⟩,.int .u32 196608,.nilFunc,.string ⟨#[101,114,114,110,111]⟩,.int .u32 327680,.func (.func 344) #[] #[.pointer (some ⟨s,0,none⟩)],.string ⟨#[110,111,116,105,102,121]⟩,.int .u32 2143289344,.nilFunc,.string ⟨#[116,114,97,99,101]⟩,.int .u32 2146435072,.func (.func 344) #[] #[.pointer (some ⟨s+1,0,none⟩)],.string ⟨#[108,111,103]⟩,.int .u32 2147221504,.nilFunc,.string ⟨#[97,108,108,111,119]⟩,.int .u32 2147418112,.nilFunc]
theorem NA(n:Int)(w:World):Calls prog 302 #[.int .i64 n] w λe w'=>e=.returned (.func (.func 344) #[] #[.pointer (some ⟨w.heap.size,0,none⟩)])/\w.alloc (.cells #[.int .i64 n] 3)=w':=by
 go_enter func302,ntmps302;go_wp2;go_ret;exact⟨rfl,rfl⟩
theorem Bi(B:Nat)(n:Int)(w:World)(A:Z7 w B 3 #[.int .i64 (n+1)])(D:0<=n)(C:n<=100000):
 Calls prog 344 #[.pointer (some ⟨B,0,none⟩)] w λe w'=>e=.returned (.int .i64 n)/\w=w':=by
 have hc:=A.cell 0;simp only[ak,aL] at hc;go_enter func344,ntmps344;go_wp2;go_ret;exact⟨OL jO,rfl⟩
theorem Wz(w:World):Calls prog 223 #[] w λe w'=>e=.returned (.slice (some ⟨w.heap.size+1+1,0,none⟩) 8 8)/\
 ((w.alloc (.cells #[.int .i64 4096] 3)).alloc (.cells #[.int .i64 65536] 3)).alloc (.cells (Zu w.heap.size) 266)=w':=by
 go_enter func223,ntmps223
 go_wp2_with (go_at_call 302;refine(NA _ _).mono ?_;rintro e w' ⟨rfl,rfl⟩)
 go_ret;exact⟨rfl,rfl⟩
def Ts(k:Int)(w:World)(e:Ending)(w':World):Prop:=
 ∃mv,e=.returned (.tuple #[.agg #[.string (Xp k),.int .u32 (YY k),mv],.bool true])/\bO w' (yI k) mv/\Below w.heap.size w w'
theorem av2(w:World):Calls prog 143 #[.int .i64 1] w (Ts 1 w):=by
 have a0:(Zu (w.heap.size+1))[0]? =some (.string ⟨#[107,105,108,108]⟩):=rfl;have a1:(Zu (w.heap.size+1))[1]? =some (.int .u32 2147483648):=rfl;have a2:(Zu (w.heap.size+1))[2]? =some (.nilFunc):=rfl;go_enter func143,ntmps143
 go_wp2_with (go_at_call 223;refine(Wz _).mono ?_;rintro e w' ⟨rfl,rfl⟩)
 refine aag (v:=.tuple #[.agg #[.string ⟨#[107,105,108,108]⟩,.int .u32 2147483648,.nilFunc],.bool true]) (by simp[results,Tryz.results143,go_sem]) rfl ⟨.nilFunc,rfl,rfl,((((aH _ w).alloc (aR _) _).alloc jS _).alloc (by simp;omega) _).alloc (by simp;omega) _⟩
theorem av3(w:World):Calls prog 143 #[.int .i64 2] w (Ts 2 w):=by
 have a0:(Zu (w.heap.size+1))[3]? =some (.string ⟨#[107,105,108,108,95,116,104,114,101,97,100]⟩):=rfl;have a1:(Zu (w.heap.size+1))[4]? =some (.int .u32 0):=rfl;have a2:(Zu (w.heap.size+1))[5]? =some (.nilFunc):=rfl;go_enter func143,ntmps143
 go_wp2_with (go_at_call 223;refine(Wz _).mono ?_;rintro e w' ⟨rfl,rfl⟩)
 refine aag (v:=.tuple #[.agg #[.string ⟨#[107,105,108,108,95,116,104,114,101,97,100]⟩,.int .u32 0,.nilFunc],.bool true]) (by simp[results,Tryz.results143,go_sem]) rfl ⟨.nilFunc,rfl,rfl,((((aH _ w).alloc (aR _) _).alloc jS _).alloc (by simp;omega) _).alloc (by simp;omega) _⟩
theorem av4(w:World):Calls prog 143 #[.int .i64 3] w (Ts 3 w):=by
 have a0:(Zu (w.heap.size+1))[6]? =some (.string ⟨#[116,114,97,112]⟩):=rfl;have a1:(Zu (w.heap.size+1))[7]? =some (.int .u32 196608):=rfl;have a2:(Zu (w.heap.size+1))[8]? =some (.nilFunc):=rfl;go_enter func143,ntmps143
 go_wp2_with (go_at_call 223;refine(Wz _).mono ?_;rintro e w' ⟨rfl,rfl⟩)
 refine aag (v:=.tuple #[.agg #[.string ⟨#[116,114,97,112]⟩,.int .u32 196608,.nilFunc],.bool true]) (by simp[results,Tryz.results143,go_sem]) rfl ⟨.nilFunc,rfl,rfl,((((aH _ w).alloc (aR _) _).alloc jS _).alloc (by simp;omega) _).alloc (by simp;omega) _⟩
theorem av5(w:World):Calls prog 143 #[.int .i64 4] w (Ts 4 w):=by
 have a0:(Zu (w.heap.size+1))[9]? =some (.string ⟨#[101,114,114,110,111]⟩):=rfl;have a1:(Zu (w.heap.size+1))[10]? =some (.int .u32 327680):=rfl;have a2:(Zu (w.heap.size+1))[11]? =some (.func (.func 344) #[] #[.pointer (some ⟨w.heap.size+1,0,none⟩)]):=rfl;go_enter func143,ntmps143
 go_wp2_with (go_at_call 223;refine(Wz _).mono ?_;rintro e w' ⟨rfl,rfl⟩)
 refine aag (v:=.tuple #[.agg #[.string ⟨#[101,114,114,110,111]⟩,.int .u32 327680,.func (.func 344) #[] #[.pointer (some ⟨w.heap.size+1,0,none⟩)]],.bool true]) (by simp[results,Tryz.results143,go_sem]) rfl ⟨.func (.func 344) #[] #[.pointer (some ⟨w.heap.size+1,0,none⟩)],rfl,⟨w.heap.size+1,rfl,by have:=((Z7.new (w.alloc (.cells #[.string ⟨#[101,114,114,110,111]⟩,.int .u32 327680,.func (.func 344) #[] #[.pointer (some ⟨w.heap.size+1,0,none⟩)]] 266)) 3 #[.int .i64 4096]).alloc (.cells #[.int .i64 65536] 3)).alloc (.cells (Zu (w.heap.size+1)) 266);simp only[ah] at this;exact this⟩,((((aH _ w).alloc (aR _) _).alloc jS _).alloc (by simp;omega) _).alloc (by simp;omega) _⟩
theorem bN(w:World):Calls prog 143 #[.int .i64 5] w (Ts 5 w):=by
 have a0:(Zu (w.heap.size+1))[12]? =some (.string ⟨#[110,111,116,105,102,121]⟩):=rfl;have a1:(Zu (w.heap.size+1))[13]? =some (.int .u32 2143289344):=rfl;have a2:(Zu (w.heap.size+1))[14]? =some (.nilFunc):=rfl;go_enter func143,ntmps143
 go_wp2_with (go_at_call 223;refine(Wz _).mono ?_;rintro e w' ⟨rfl,rfl⟩)
 refine aag (v:=.tuple #[.agg #[.string ⟨#[110,111,116,105,102,121]⟩,.int .u32 2143289344,.nilFunc],.bool true]) (by simp[results,Tryz.results143,go_sem]) rfl ⟨.nilFunc,rfl,rfl,((((aH _ w).alloc (aR _) _).alloc jS _).alloc (by simp;omega) _).alloc (by simp;omega) _⟩
theorem ry(w:World):Calls prog 143 #[.int .i64 6] w (Ts 6 w):=by
 have a0:(Zu (w.heap.size+1))[15]? =some (.string ⟨#[116,114,97,99,101]⟩):=rfl;have a1:(Zu (w.heap.size+1))[16]? =some (.int .u32 2146435072):=rfl;have a2:(Zu (w.heap.size+1))[17]? =some (.func (.func 344) #[] #[.pointer (some ⟨w.heap.size+1+1,0,none⟩)]):=rfl;go_enter func143,ntmps143
 go_wp2_with (go_at_call 223;refine(Wz _).mono ?_;rintro e w' ⟨rfl,rfl⟩)
 refine aag (v:=.tuple #[.agg #[.string ⟨#[116,114,97,99,101]⟩,.int .u32 2146435072,.func (.func 344) #[] #[.pointer (some ⟨w.heap.size+1+1,0,none⟩)]],.bool true]) (by simp[results,Tryz.results143,go_sem]) rfl ⟨.func (.func 344) #[] #[.pointer (some ⟨w.heap.size+1+1,0,none⟩)],rfl,⟨w.heap.size+1+1,rfl,by have:=(Z7.new ((w.alloc (.cells #[.string ⟨#[116,114,97,99,101]⟩,.int .u32 2146435072,.func (.func 344) #[] #[.pointer (some ⟨w.heap.size+1+1,0,none⟩)]] 266)).alloc (.cells #[.int .i64 4096] 3)) 3 #[.int .i64 65536]).alloc (.cells (Zu (w.heap.size+1)) 266);simp only[ah] at this;exact this⟩,((((aH _ w).alloc (aR _) _).alloc jS _).alloc (by simp;omega) _).alloc (by simp;omega) _⟩
theorem av6(w:World):Calls prog 143 #[.int .i64 7] w (Ts 7 w):=by
 have a0:(Zu (w.heap.size+1))[18]? =some (.string ⟨#[108,111,103]⟩):=rfl;have a1:(Zu (w.heap.size+1))[19]? =some (.int .u32 2147221504):=rfl;have a2:(Zu (w.heap.size+1))[20]? =some (.nilFunc):=rfl;go_enter func143,ntmps143
 go_wp2_with (go_at_call 223;refine(Wz _).mono ?_;rintro e w' ⟨rfl,rfl⟩)
 refine aag (v:=.tuple #[.agg #[.string ⟨#[108,111,103]⟩,.int .u32 2147221504,.nilFunc],.bool true]) (by simp[results,Tryz.results143,go_sem]) rfl ⟨.nilFunc,rfl,rfl,((((aH _ w).alloc (aR _) _).alloc jS _).alloc (by simp;omega) _).alloc (by simp;omega) _⟩
theorem av7(w:World):Calls prog 143 #[.int .i64 8] w (Ts 8 w):=by
 have a0:(Zu (w.heap.size+1))[21]? =some (.string ⟨#[97,108,108,111,119]⟩):=rfl;have a1:(Zu (w.heap.size+1))[22]? =some (.int .u32 2147418112):=rfl;have a2:(Zu (w.heap.size+1))[23]? =some (.nilFunc):=rfl;go_enter func143,ntmps143
 go_wp2_with (go_at_call 223;refine(Wz _).mono ?_;rintro e w' ⟨rfl,rfl⟩)
 refine aag (v:=.tuple #[.agg #[.string ⟨#[97,108,108,111,119]⟩,.int .u32 2147418112,.nilFunc],.bool true]) (by simp[results,Tryz.results143,go_sem]) rfl ⟨.nilFunc,rfl,rfl,((((aH _ w).alloc (aR _) _).alloc jS _).alloc (by simp;omega) _).alloc (by simp;omega) _⟩
end Go.Proofs.YtclgigmgbebhgaaGreatDoor.X7
namespace Go.Proofs.YtclgigmgbebhgaaGreatDoor
open Tryz
open Go
section
variable {P:Program}
theorem QL(w:World)(d:Nat)(t:TypeId){ps rs:Array TypeId}{v:Bool}(h:P.underlying t=some (.func ps rs v)):(Op.equalIn (d+1) t .nilFunc .nilFunc).run P w=.ok true w:=by
 simp[Op.equalIn,ajb h]
theorem RF(w:World)(d:Nat)(t:TypeId){ps rs:Array TypeId}{v:Bool}(fn:Fn)(a c:Array Value)(h:P.underlying t=some (.func ps rs v)):(Op.equalIn (d+1) t (.func fn a c) .nilFunc).run P w=.ok false w:=by
 simp[Op.equalIn,ajb h]
theorem LI(w:World)(t:TypeId){ps rs:Array TypeId}{v:Bool}(h:P.underlying t=some (.func ps rs v)):(binOp .eql t .nilFunc .nilFunc).run P w=.ok (.bool true) w:=by
 simp only[binOp];simp[Op.equal,Op.maxDepth,QL w 9999 t h]
theorem Nh(w:World)(t:TypeId){ps rs:Array TypeId}{v:Bool}(fn:Fn)(a c:Array Value)(h:P.underlying t=some (.func ps rs v)):(binOp .eql t (.func fn a c) .nilFunc).run P w=.ok (.bool false) w:=by
 simp only[binOp];simp[Op.equal,Op.maxDepth,RF w 9999 t fn a c h]
end
end Go.Proofs.YtclgigmgbebhgaaGreatDoor
namespace Go.Proofs.YtclgigmgbebhgaaGreatDoor.X7
open Tryz
open Go Go.Proofs Go.RowKit
theorem bM{n:Nat}{w W:World}(h:Below n w W)(k:Nat):Below n w (W.drewN k):=⟨h.os,h.tape,h.output,h.size,h.block⟩
theorem Jp(s:ByteArray)(c:Int)(w:World):Calls prog 203 #[.agg #[.string s,.int .u32 c,.nilFunc]] w λe w'=>e=.returned (.int .i64 0)/\Below w.heap.size w w':=by
 have A:=λW=>LI (P:=prog) W 145 underlying145
 go_enter func203,ntmps203;go_wp2;go_ret;exact⟨rfl,(aH _ w).alloc (aR _) _⟩
theorem Jo(s:ByteArray)(c n:Int)(B:Nat)(w:World)(C:Z7 w B 3 #[.int .i64 (n+1)])(I:0<=n)(D:n<=100000):
 Calls prog 203 #[.agg #[.string s,.int .u32 c,.func (.func 344) #[] #[.pointer (some ⟨B,0,none⟩)]]] w λe w'=>e=.returned (.int .i64 n)/\Below w.heap.size w w':=by
 have A:=C.alloc (.cells #[.string s,.int .u32 c,.func (.func 344) #[] #[.pointer (some ⟨B,0,none⟩)]] 266);have hc:=Bi B n _ A I D;have J:=aT hc;clear hc A C;have T:=λW fn a c=>Nh (P:=prog) W 145 fn a c underlying145
 go_enter func203,ntmps203
 go_wp2_with (go_at_call 344;refine(J).mono ?_;rintro e w' ⟨rfl,rfl⟩)
 go_ret;exact⟨rfl,(aH _ w).alloc (aR _) _⟩
theorem Gf(k:Int)(A:1<=k)(C:k<=8)(w:World):Calls prog 143 #[.int .i64 k] w (Ts k w):=by
 have h:k=1\/k=2\/k=3\/k=4\/k=5\/k=6\/k=7\/k=8:=jO;rcases h with rfl|rfl|rfl|rfl|rfl|rfl|rfl|rfl;·exact av2 w
 ·exact av3 w
 ·exact av4 w
 ·exact av5 w
 ·exact bN w
 ·exact ry w
 ·exact av6 w
 ·exact av7 w
theorem kD(k:Int)(h:k<1\/8<k)(w:World):Calls prog 143 #[.int .i64 k] w λe w'=>e=.returned (.tuple #[.agg #[.string ⟨#[]⟩,.int .u32 0,.nilFunc],.bool false])/\Below w.heap.size w w':=by
 rcases h with h|h
 all_goals
  go_enter func143,ntmps143
  go_wp2_with (go_at_call 223;refine(Wz _).mono ?_;rintro e w' ⟨rfl,rfl⟩)
  refine aag (v:=.tuple #[.agg #[.string ⟨#[]⟩,.int .u32 0,.nilFunc],.bool false]) (by simp[results,Tryz.results143,go_sem]) rfl ⟨rfl,?_⟩;exact((((aH _ w).alloc (aR _) _).alloc jS _).alloc (by simp;omega) _).alloc (by simp;omega) _
theorem Ks(k:Int)(C:1<=k)(I:k<=8)(A:k≠4)(D:k≠6)(w:World):
 Calls prog 143 #[.int .i64 k] w λe w'=>e=.returned (.tuple #[.agg #[.string (Xp k),.int .u32 (YY k),.nilFunc],.bool true])/\Below w.heap.size w w':=
 (Gf k C I w).mono λe w' ⟨T,J,hm,hb⟩=>by unfold yI at hm;rw[aN A,aN D] at hm;cases hm;exact⟨J,hb⟩
theorem Bh(k:Int)(hk:k=4\/k=6)(w:World):
 Calls prog 143 #[.int .i64 k] w λe w'=>∃B,e=.returned (.tuple #[.agg #[.string (Xp k),.int .u32 (YY k),.func (.func 344) #[] #[.pointer (some ⟨B,0,none⟩)]],.bool true])/\Z7 w' B 3 #[.int .i64 (YF k+1)]/\Below w.heap.size w w':=
 (Gf k jO jO w).mono λe w' ⟨D,C,hm,hb⟩=>by
   rcases hk with rfl|rfl;·obtain⟨B,rfl,A⟩:=hm;exact⟨B,C,A,hb⟩
   ·obtain⟨B,rfl,A⟩:=hm;exact⟨B,C,A,hb⟩
theorem Bg(k n:Int)(h:k<1\/8<k)(w:World):Calls prog 123 #[.agg #[.int .i64 k,.int .i64 n]] w λe w'=>e=.returned (.bool false)/\Below w.heap.size w w':=by
 go_enter func123,ntmps123
 go_wp2_with (go_at_call 143;refine(kD k h _).mono ?_;rintro e D ⟨rfl,C⟩)
 go_quiet (fail);go_wp2;go_ret;have A:Below w.heap.size w D:=((aH _ w).alloc (aR _) _).trans (C.mono jS);exact⟨rfl,bM (A.alloc A.size _) _⟩
theorem LH(k n:Int)(J:1<=k)(U:k<=8)(I:k≠4)(T:k≠6)(hn:n<0)(w:World):Calls prog 123 #[.agg #[.int .i64 k,.int .i64 n]] w λe w'=>e=.returned (.bool false)/\Below w.heap.size w w':=by
 have hd:decide (0<=n)=false:=by simpa using hn
 go_enter func123,ntmps123
 go_wp2_with (go_at_call 143;refine(Ks k J U I T _).mono ?_;rintro e Y ⟨rfl,A⟩)
 have D:=(((Z7.new w 48 #[.int .i64 k,.int .i64 n]).below A jS).alloc (.cells #[.string (Xp k),.int .u32 (YY k),.nilFunc] 266)).cell 1;simp only[ak,aL,aF] at D;go_quiet (fail);go_wp2;go_ret;have C:Below w.heap.size w Y:=((aH _ w).alloc (aR _) _).trans (A.mono jS);exact⟨rfl,bM (C.alloc C.size _) _⟩
theorem DF(k n:Int)(Y:1<=k)(h8:k<=8)(U:k≠4)(Z:k≠6)(hn:0<=n)(w:World):Calls prog 123 #[.agg #[.int .i64 k,.int .i64 n]] w λe w'=>e=.returned (.bool (decide (n<=0)))/\Below w.heap.size w w':=by
 have hd:decide (0<=n)=true:=by simpa using hn
 go_enter func123,ntmps123
 go_wp2_with (go_at_call 143;refine(Ks k Y h8 U Z _).mono ?_;rintro e I ⟨rfl,C⟩)
 have J:=C.size;simp at J;have T:=(((Z7.new w 48 #[.int .i64 k,.int .i64 n]).below C jS).alloc (.cells #[.string (Xp k),.int .u32 (YY k),.nilFunc] 266)).cell 1;simp only[ak,aL,aF] at T
 go_region_held3 (λw'=>w'.cell? ⟨w.heap.size,1,none⟩=some (.int .i64 n)/\w'.cell? ⟨I.heap.size,0,none⟩=some (.string (Xp k))/\w'.cell? ⟨I.heap.size,1,none⟩=some (.int .u32 (YY k))/\w'.cell? ⟨I.heap.size,2,none⟩=some .nilFunc) (first|go_keep|exact⟨cell_later A (by first|assumption|simp),cell_later A (by first|assumption|simp),cell_later A (by first|assumption|simp),cell_later A (by first|assumption|simp)⟩) (first|(go_at_call 203;refine(Jp _ _ _).mono ?_;rintro e w2 ⟨rfl,A⟩))
 go_wp2;go_ret;have D:Below w.heap.size w I:=((aH _ w).alloc (aR _) _).trans (C.mono jS);exact⟨rfl,(D.alloc D.size _).drew.trans (A.mono (by simp;omega))⟩
theorem Jn(k n:Int)(hk:k=4\/k=6)(hn:n<0)(w:World):Calls prog 123 #[.agg #[.int .i64 k,.int .i64 n]] w λe w'=>e=.returned (.bool false)/\Below w.heap.size w w':=by
 have hd:decide (0<=n)=false:=by simpa using hn
 have J:=aT hk;clear hk;go_enter func123,ntmps123
 go_wp2_with (go_at_call 143;refine(Bh k J _).mono ?_;rintro e I ⟨B,rfl,T,A⟩)
 have D:=(((Z7.new w 48 #[.int .i64 k,.int .i64 n]).below A jS).alloc (.cells #[.string (Xp k),.int .u32 (YY k),.func (.func 344) #[] #[.pointer (some ⟨B,0,none⟩)]] 266)).cell 1;simp only[ak,aL,aF] at D;go_quiet (fail);go_wp2;go_ret;have C:Below w.heap.size w I:=((aH _ w).alloc (aR _) _).trans (A.mono jS);exact⟨rfl,bM (C.alloc C.size _) _⟩
theorem vT(k n:Int)(hk:k=4\/k=6)(hn:0<=n)(w:World):Calls prog 123 #[.agg #[.int .i64 k,.int .i64 n]] w λe w'=>e=.returned (.bool (decide (n<=YF k)))/\Below w.heap.size w w':=by
 have hd:decide (0<=n)=true:=by simpa using hn
 have g0:0<=YF k:=by rcases hk with rfl|rfl<;>decide
 have Z:YF k<=100000:=by rcases hk with rfl|rfl<;>decide
 generalize hg:YF k=g at g0 Z;have Hg:=aT hg;have Hk:=aT hk;clear hk hg;go_enter func123,ntmps123
 go_wp2_with (go_at_call 143;refine(Bh k Hk _).mono ?_;rintro e J ⟨B,rfl,Y,C⟩)
 rw[Hg.out] at Y;have T:=(((Z7.new w 48 #[.int .i64 k,.int .i64 n]).below C jS).alloc (.cells #[.string (Xp k),.int .u32 (YY k),.func (.func 344) #[] #[.pointer (some ⟨B,0,none⟩)]] 266)).cell 1;simp only[ak,aL,aF] at T;have U:=C.size;simp at U;have D:=Y.alloc (.cells #[.string (Xp k),.int .u32 (YY k),.func (.func 344) #[] #[.pointer (some ⟨B,0,none⟩)]] 266);have HB:=aT D;clear D Y
 go_region_held3 (λw'=>w'.cell? ⟨w.heap.size,1,none⟩=some (.int .i64 n)/\w'.cell? ⟨J.heap.size,0,none⟩=some (.string (Xp k))/\w'.cell? ⟨J.heap.size,1,none⟩=some (.int .u32 (YY k))/\w'.cell? ⟨J.heap.size,2,none⟩=some (.func (.func 344) #[] #[.pointer (some ⟨B,0,none⟩)])) (first|go_keep|exact⟨cell_later A (by first|assumption|simp),cell_later A (by first|assumption|simp),cell_later A (by first|assumption|simp),cell_later A (by first|assumption|simp)⟩) (first|(go_at_call 203;refine(Jo _ _ g B _ (by exact HB) g0 Z).mono ?_;rintro e w2 ⟨rfl,A⟩))
 go_wp2;go_ret;have I:Below w.heap.size w J:=((aH _ w).alloc (aR _) _).trans (C.mono jS);exact⟨rfl,(I.alloc I.size _).drew.trans (A.mono (by simp;omega))⟩
theorem XQ(k n:Int)(w:World):Calls prog 123 #[.agg #[.int .i64 k,.int .i64 n]] w λe w'=>e=.returned (.bool (Zc k n))/\Below w.heap.size w w':=by
 unfold Zc;by_cases hk:1<=k/\k<=8
 ·obtain⟨D,I⟩:=hk;by_cases A:k=4\/k=6
  ·by_cases hn:0<=n
   ·refine(vT k n A hn w).mono λe w' ⟨C,hb⟩=>⟨C.trans (GD ?_),hb⟩
    simp[D,I,hn]
   ·refine(Jn k n A jO w).mono λe w' ⟨C,hb⟩=>⟨C.trans (GD ?_),hb⟩
    simp[hn]
  ·have e0:YF k=0:=by unfold YF;rw[aN (λh=>A (.inl h)),aN (λh=>A (.inr h))]
   by_cases hn:0<=n
   ·refine(DF k n D I (λh=>A (.inl h)) (λh=>A (.inr h)) hn w).mono λe w' ⟨C,hb⟩=>⟨C.trans (GD ?_),hb⟩
    simp[D,I,hn,e0]
   ·refine(LH k n D I (λh=>A (.inl h)) (λh=>A (.inr h)) jO w).mono λe w' ⟨C,hb⟩=>⟨C.trans (GD ?_),hb⟩
    simp[hn]
 ·refine(Bg k n jO w).mono λe w' ⟨C,hb⟩=>⟨C.trans (GD ?_),hb⟩
  simp;omega
theorem RD(k n:Int)(hr:Zc k n=true):0<=YY k+n/\YY k+n<4294967296/\0<=n/\n<=65535/\1<=k/\k<=8/\0<=YY k/\YY k<=2147483648:=by
 unfold Zc at hr;simp only[aed] at hr;obtain⟨C,I,D,A⟩:=hr;have h:k=1\/k=2\/k=3\/k=4\/k=5\/k=6\/k=7\/k=8:=jO;rcases h with rfl|rfl|rfl|rfl|rfl|rfl|rfl|rfl<;>simp[YF,YY] at*<;>omega
theorem Bf(k n:Int)(hr:Zc k n=true)(Z:k≠4)(h6:k≠6)(w:World):Calls prog 90 #[.agg #[.int .i64 k,.int .i64 n]] w λe w'=>e=.returned (.tuple #[.int .u32 (YY k+n),.int .i64 0])/\Below w.heap.size w w':=by
 have hc:=XQ k n;obtain⟨c0,c1,n0,n1,T,U,d0,d1⟩:=RD k n hr;rw[hr] at hc;have Y:=aT hc;clear hc hr;go_enter func90,ntmps90
 go_wp2_with (first|(go_at_call 123;refine(Y _).mono ?_;rintro e w1 ⟨rfl,A⟩;have J:=(((Z7.new w 48 #[.int .i64 k,.int .i64 n]).below A jS)).cell 0;have D:=(((Z7.new w 48 #[.int .i64 k,.int .i64 n]).below A jS)).cell 1;have s1:=A.size;simp only[ak,aL,aF] at J D;simp at s1)|(go_at_call 143;refine(Ks k T U Z h6 _).mono ?_;rintro e w2 ⟨rfl,C⟩;have I:=((((Z7.new w 48 #[.int .i64 k,.int .i64 n]).below A jS).below C jO).alloc (.cells #[.string (Xp k),.int .u32 (YY k),.nilFunc] 266)).cell 1;simp only[ak,aL,aF] at I;have s2:=C.size))
 go_ret2;exact⟨rfl,(((((aH _ w).alloc (aR _) _).trans (A.mono jS)).trans (C.mono jO)).alloc jO _)⟩
theorem ru(k n:Int)(hr:Zc k n=true)(hk:k=4\/k=6)(w:World):Calls prog 90 #[.agg #[.int .i64 k,.int .i64 n]] w λe w'=>e=.returned (.tuple #[.int .u32 (YY k+n),.int .i64 0])/\Below w.heap.size w w':=by
 have hc:=XQ k n;obtain⟨c0,c1,n0,n1,Y,Z,d0,d1⟩:=RD k n hr;rw[hr] at hc;have T:=aT hc;clear hc hr;have U:=aT hk;clear hk;go_enter func90,ntmps90
 go_wp2_with (first|(go_at_call 123;refine(T _).mono ?_;rintro e w1 ⟨rfl,A⟩;have J:=(((Z7.new w 48 #[.int .i64 k,.int .i64 n]).below A jS)).cell 0;have D:=(((Z7.new w 48 #[.int .i64 k,.int .i64 n]).below A jS)).cell 1;have s1:=A.size;simp only[ak,aL,aF] at J D;simp at s1)|(go_at_call 143;refine(Bh k U _).mono ?_;rintro e w2 ⟨B,rfl,hB,C⟩;have I:=((((Z7.new w 48 #[.int .i64 k,.int .i64 n]).below A jS).below C jO).alloc (.cells #[.string (Xp k),.int .u32 (YY k),.func (.func 344) #[] #[.pointer (some ⟨B,0,none⟩)]] 266)).cell 1;simp only[ak,aL,aF] at I;have s2:=C.size))
 go_ret2;exact⟨rfl,(((((aH _ w).alloc (aR _) _).trans (A.mono jS)).trans (C.mono jO)).alloc jO _)⟩
end Go.Proofs.YtclgigmgbebhgaaGreatDoor.X7
namespace Go.Proofs.YtclgigmgbebhgaaGreatDoor
open Tryz
open Go Go.Proofs Go.RowKit
variable {a m:Nat}
def Vg(l:List Z4.Z2)(r:NR):Bool:=O4 l r.nm&&decide (0<r.cs.length)
theorem Jm{N L c:Nat}{a:Option Addr}{rs:List NR}{k n:Int}{x:Bool}(sv:Value)(l:List Z4.Z2)(hL:rs.length=L)(I:L<=1000000)(w:World)(h:UI N w a rs)(hN:N<=w.heap.size)(Pb:l.length<=1000000)(hR:Z4.X2 w sv l)(hT:Z4.Zt l):
 Calls prog 35 #[.agg #[.int .i64 k,.int .i64 n,.bool x,.slice a L c],sv] w λe w'=>∃z:Int,e=.returned (.tuple #[.int .i64 z,.bool (!rs.any (Vg l))])/\Below w.heap.size w w':=by
 obtain⟨sa,sc,rfl,-⟩:=id hR;obtain⟨sv,T⟩:∃v:Value,Value.slice sa l.length sc=v:=⟨_,rfl⟩;rw[T] at hR ⊢;obtain⟨qs,D,Y,Z⟩:=h.rows;have A:=KM w (.cells #[.int .i64 k,.int .i64 n,.bool x,.slice a L c] VZ) (.cells #[sv] 41);have HP:=aT ((Z7.new w VZ #[.int .i64 k,.int .i64 n,.bool x,.slice a L c]).alloc (.cells #[sv] 41));have HS:=aT (Z7.O9 w (.cells #[.int .i64 k,.int .i64 n,.bool x,.slice a L c] VZ) 41 #[sv]);have C:(List.range L).any (λi=>match rs[i]? with|some r=>Vg l r|none=>false)=rs.any (Vg l):=by
  rw[aoc,alg,alg];constructor
  ·rintro⟨i,hi,e⟩;cases hr:rs[i]? with
   |none=>rw[hr] at e;cases e
   |some r=>rw[hr] at e;exact⟨r,af hr,e⟩
  ·rintro⟨r,hr,e⟩;obtain⟨i,hi,rfl⟩:=agb.1 hr;refine⟨i,aia.2 jO,?_⟩;rw[aM hi];exact e
 have J:=A.size;have hc:=DY (c:=c) (λi=>match rs[i]? with|some r=>Vg l r|none=>false) 84 #[.pointer (some ⟨w.heap.size+1,0,none⟩)] (enters_of func84 jK rfl) (D.trans hL) I ((w.alloc (.cells #[.int .i64 k,.int .i64 n,.bool x,.slice a L c] VZ)).alloc (.cells #[sv] 41)) (λi q hq=>by
  obtain⟨g,off,h1,h2,h3,h4,h5,h6⟩:=Y i q hq;exact⟨g,off,h1,h2,ZY A hN h2 h3,ZY A hN h2 h4,ZY A hN h2 h5,ZY A hN h2 h6⟩) (aO hN J) (λW i q hb hq=>by
  have hi:i<rs.length:=by have:=(au.1 hq).1;omega
  obtain⟨r,hr⟩:∃r,rs[i]? =some r:=⟨_,aM hi⟩;obtain⟨h1,_,_,h4⟩:=Z i q r hq hr;have e:(match rs[i]? with|some r=>Vg l r|none=>false)=(O4 l q.nm&&decide (0<r.cs.length)):=by rw[hr,h1];rfl
  rw[e];obtain⟨ua,uc,e2,_⟩:=h4;rw[e2];have hk:Below w.heap.size w W:=A.trans (hb.mono J);exact vU sv l W Pb (hR.below hk) hT (HS.below hb HS.lt))
 rw[C] at hc;have HC:=aT hc;have HB:=aT A;clear hc C D Y Z h hR hT HS A;subst T;generalize rs.any (Vg l)=b at*;go_enter func35,ntmps35;go_upto_region 1 with fail;generalize (w.alloc (.cells #[.int .i64 k,.int .i64 n,.bool x,.slice a L c] VZ)).alloc (.cells #[.slice sa l.length sc] 41)=w2 at*;obtain⟨⟨_,_,_,p3⟩,_⟩:=Z8 HP;go_wp2_with fail;refine HC.mono ?_;rintro e w3 ⟨z,rfl,hz,hz1,hb3⟩;have Vj:=aT (HB.trans (hb3.mono HB.size));clear hb3;cases b with
 |false=>
  have U:z<0:=by have:=arb hz;omega
  clear hz;go_wp2_with fail;go_ret2;exact⟨max z 0,by simp[U],Vj⟩
 |true=>
  have U:0<=z:=ala hz;have hz3:¬z<0:=jO;clear hz;go_wp2_with fail;go_ret2;exact⟨max z 0,by simp[hz3],Vj⟩
def XR(k n:Int):Nat:=(X7.YY k+n).toNat
theorem Kr{k n:Int}(h:X7.Zc k n=true):XR k n<4294967296/\((XR k n:Nat):Int)=X7.YY k+n:=by
 obtain⟨c0,c1,n0,n1,C,D,A,I⟩:=X7.RD k n h;unfold XR;omega
theorem DD(k n:Int)(hr:X7.Zc k n=true)(w:World):Calls prog 90 #[.agg #[.int .i64 k,.int .i64 n]] w λe w'=>e=.returned (.tuple #[.int .u32 (X7.YY k+n),.int .i64 0])/\Below w.heap.size w w':=by
 by_cases hk:k=4\/k=6;·exact X7.ru k n hr hk w
 ·exact X7.Bf k n hr (λh=>hk (.inl h)) (λh=>hk (.inr h)) w
theorem Io(k n:Int)(hr:X7.Zc k n=true)(w:World):Calls prog 37 #[.agg #[.int .i64 k,.int .i64 n]] w λe w'=>e=.returned (.int .u32 (XR k n:Int))/\Below w.heap.size w w':=by
 have I:=(Kr hr).2;have hb:=Yl w (.cells #[.int .i64 k,.int .i64 n] 48);have D:=aT (DD k n hr (w.alloc (.cells #[.int .i64 k,.int .i64 n] 48)));rw[<-I] at D;generalize XR k n=cd at*;have C:=aT hb;clear I hb hr;have J:=aT (Z7.new w 48 #[.int .i64 k,.int .i64 n]);go_enter func37,ntmps37;go_upto_region 1 with fail;generalize w.alloc (.cells #[.int .i64 k,.int .i64 n] 48)=w1 at*;obtain⟨p0,p1⟩:=J.q2;go_wp2_with fail;refine D.mono ?_;rintro e T ⟨rfl,hb⟩;have A:=aT (C.trans (hb.mono C.size));clear hb;go_wp2_with fail;go_ret;exact⟨rfl,A⟩
abbrev Xo:=Nat×List Z3
theorem kC:(prog.info? Oy).map (λi=>(i.zero,i.size,i.bytes))=some (some (.agg #[.int .u32 0,.slice none 0 0]),2,32):=jK
theorem kA:(prog.info? Ot).map (λi=>(i.zero,i.size,i.bytes))=some (some (.agg #[.int .u32 0,.int .u32 0]),2,8):=jK
structure Kept(lo P:Nat)(W W':World):Prop where
 Zs:Below lo W W'
 size:W.heap.size<=W'.heap.size
 keep:∀k t cs,Z7 W k t cs->t≠Oy->t≠Ot->t≠Xy->Z7 W' k t cs
 yH:∀k cs,Z7 W k Xy cs->k≠P->Z7 W' k Xy cs
section
variable {lo P:Nat} {W W' W2:World}
theorem Kept.refl(lo P:Nat)(W:World):Kept lo P W W:=⟨aH _ _,aR _,λ_ _ _ h _ _ _=>h,λ_ _ h _=>h⟩
theorem Kept.trans(h:Kept lo P W W')(C:Kept lo P W' W2):Kept lo P W W2:=⟨h.Zs.trans C.Zs,aO h.size C.size,λk t cs hb A I D=>C.keep k t cs (h.keep k t cs hb A I D) A I D,λk cs hb A=>C.yH k cs (h.yH k cs hb A) A⟩
theorem Kept.Ng(A:lo<=W.heap.size)(hb:Below W.heap.size W W'):Kept lo P W W':=⟨hb.mono A,hb.size,λ_ _ _ h _ _ _=>h.below hb h.lt,λ_ _ h _=>h.below hb h.lt⟩
theorem Kept.drew(A:lo<=W.heap.size):Kept lo P W W.drew:=Kept.Ng A (aH _ _).drew
theorem Kept.grown{e s n:Nat}{v:Value}{xs:List Value}(I:lo<=W.heap.size)(hv:W.ownsRow lo e s v n xs)(U:e=Oy\/e=Ot)(D:W.grownBy W' v.ownBlock):Kept lo P W W':=by
 have A:∀k t cs,Z7 W k t cs->t≠Oy->t≠Ot->Z7 W' k t cs:=λk t cs hb C T=>hb.kept D (λe2=>by
  obtain⟨cs',J⟩:=Xq hv e2.symm;have:=TW hb J;rcases U with rfl|rfl;·exact C this
  ·exact T this)
 exact⟨(aH lo W).grown D I (λk e=>(hv.lt k e).1),D.size,λk t cs hb C T _=>A k t cs hb C T,λk cs hb _=>A k Xy cs hb jD jD⟩
theorem Kept.set{j:Nat}{u:Value}{cs:Array Value}(A:lo<=P)(hb:Z7 W P Xy cs):Kept lo P W (W.setCell ⟨P,j,none⟩ u):=by
 refine⟨(aH lo W).setCell (p:=⟨P,j,none⟩) A u,jS,λk t cs' hk C I D=>hk.other (λe=> ?_) j u,λk cs' hk C=>hk.other C j u⟩;subst e;exact D (TW hk hb)
theorem Kept.row{e s n b:Nat}{v:Value}{xs:List Value}(h:Kept lo P W W')(hv:W.ownsRow b e s v n xs)(I:e≠Oy)(C:e≠Ot)(T:e≠Xy):W'.ownsRow b e s v n xs:=by
 refine⟨hv.1,?_⟩;rcases hv.2 with J|⟨g,cap,A,e1,e2,D,e3⟩;·exact .inl J
 ·exact .inr ⟨g,cap,A,e1,e2,h.keep g e A D I C T,e3⟩
theorem Kept.Oh{b:Nat}{v:Value}{rs:List Z3}{us:List Value}(h:Kept lo P W W')(A:Yk b W v rs us):Yk b W' v rs us:=
 ⟨A.len,h.row A.row jD jD jD,λj u r hu hr=>h.row (A.cs j u r hu hr) jD jD jD⟩
theorem Kept.YO{b:Nat}{v:Value}{rs:List NR}{us:List Value}(h:Kept lo P W W')(A:TX b W v rs us):TX b W' v rs us:=
 ⟨A.len,h.row A.row jD jD jD,λj u r hu hr=>h.row (A.cs j u r hu hr) jD jD jD⟩
end
structure kz(lo:Nat)(W:World)(v:Value)(es:List LJ):Prop where
 row:W.ownsRow lo Oy 2 v es.length (es.flatMap Jq)
 rs:∀x∈es,Yk lo W (.slice x.a x.m x.c) x.rs x.us
def RA(lo:Nat)(W:World)(v:Value)(l:List Xo):Prop:=∃es:List LJ,es.map (λx=>(x.n,x.rs))=l/\kz lo W v es
def MG(lo:Nat)(W:World)(v:Value)(l:List (Nat×Nat)):Prop:=W.ownsRow lo Ot 2 v l.length (l.flatMap encS)
def Vf(d:Nat)(x:Bool)(ve vs:Nat->Value):Array Value:=#[.int .u32 d,.bool x,ve 0,ve 1,ve 2,ve 3,ve 4,vs 0,vs 1]
def Og{α:Type}(f:Nat->α)(a:Nat)(u:α):Nat->α:=λb=>if b=a then u else f b
theorem XV{α:Type}(f:Nat->α)(a:Nat)(u:α):Og f a u a=u:=aG rfl
theorem X9{α:Type}(f:Nat->α){b:Nat}(u:α)(h:b≠a):Og f a u b=f b:=aN h
theorem Lq(d:Nat)(x:Bool)(ve vs:Nat->Value) (ha:a<5):(Vf d x ve vs)[2+a]? =some (ve a):=by
 rcases (show a=0\/a=1\/a=2\/a=3\/a=4 from jO) with rfl|rfl|rfl|rfl|rfl<;>rfl
theorem Lp(d:Nat)(x:Bool)(ve vs:Nat->Value) (hm:m<2):(Vf d x ve vs)[7+m]? =some (vs m):=by
 rcases (show m=0\/m=1 from jO) with rfl|rfl<;>rfl
theorem Be(d:Nat)(x:Bool)(ve vs:Nat->Value) (ha:a<5)(u:Value):(Vf d x ve vs).setIfInBounds (2+a) u=Vf d x (Og ve a u) vs:=by
 rcases (show a=0\/a=1\/a=2\/a=3\/a=4 from jO) with rfl|rfl|rfl|rfl|rfl<;>rfl
theorem A9(d:Nat)(x:Bool)(ve vs:Nat->Value) (hm:m<2)(u:Value):(Vf d x ve vs).setIfInBounds (7+m) u=Vf d x ve (Og vs m u):=by
 rcases (show m=0\/m=1 from jO) with rfl|rfl<;>rfl
structure YA(lo P:Nat)(W:World)(d:Nat)(x:Bool)(ve vs:Nat->Value)(E:Nat->List Xo)(S:Nat->List (Nat×Nat)):Prop where
 blk:Z7 W P Xy (Vf d x ve vs)
 lw:lo<=P
 O3:∀a,a<5->RA lo W (ve a) (E a)
 subs:∀m,m<2->MG lo W (vs m) (S m)
 mN:∀a b,a<5->b<5->a≠b->∀k,(ve a).ownBlock=some k->(ve b).ownBlock≠some k
 mM:∀a b,a<2->b<2->a≠b->∀k,(vs a).ownBlock=some k->(vs b).ownBlock≠some k
section
variable {lo P:Nat} {W W':World} {d:Nat} {x:Bool} {ve vs:Nat->Value} {E:Nat->List Xo} {S:Nat->List (Nat×Nat)}
theorem RA.Zs{v:Value}{l:List Xo}(h:RA lo W v l)(hb:Below W.heap.size W W'):RA lo W' v l:=by
 obtain⟨es,e,A,C⟩:=h;exact⟨es,e,ZE A hb,λx hx=>(C x hx).Zs hb⟩
theorem YA.Zs(h:YA lo P W d x ve vs E S)(hb:Below W.heap.size W W'):YA lo P W' d x ve vs E S:=
 ⟨h.blk.below hb h.blk.lt,h.lw,λa ha=>(h.O3 a ha).Zs hb,λm hm=>ZE (h.subs m hm) hb,h.mN,h.mM⟩
theorem YA.lt(h:YA lo P W d x ve vs E S):lo<=W.heap.size:=aO h.lw (ace h.blk.lt)
theorem Ve{e s n b k t:Nat}{v:Value}{xs:List Value}{cs:Array Value}(h:W.ownsRow b e s v n xs)(hb:Z7 W k t cs)(ht:e≠t):v.ownBlock≠some k:=λe2=>by
 obtain⟨cs',A⟩:=Xq h e2;exact ht (TW A hb)
theorem YA.av8(h:YA lo P W d x ve vs E S){a:Nat}(ha:a<5){n:Nat}{va:Option Addr}{vm vc:Nat}{rs:List Z3}{us:List Value}(hr:Yk lo W (.slice va vm vc) rs us)(U:W.grownBy W' (ve a).ownBlock)
 {v':Value} {xs:List Value} (hx:xs=[.int .u32 n,.slice va vm vc]) {es:List LJ} (he:es.map (λx=>(x.n,x.rs))=E a) (Z:kz lo W (ve a) es) (hO:W'.ownsRow lo Oy 2 v' (es.length+1) (es.flatMap Jq++xs)) (J:v'.ownBlock=(ve a).ownBlock\/v'.ownBlock=some W.heap.size):
 YA lo P (W'.setCell ⟨P,2+a,none⟩ v') d x (Og ve a v') vs (Og E a (E a++[(n,rs)])) S/\Kept lo P W (W'.setCell ⟨P,2+a,none⟩ v'):=by
 subst hx;have Y:Kept lo P W W':=Kept.grown h.lt Z.row (.inl rfl) U;have A:Z7 W' P Xy (Vf d x ve vs):=h.blk.kept U (λe=>Ve Z.row h.blk jD e.symm);have hS:Kept lo P W' (W'.setCell ⟨P,2+a,none⟩ v'):=Kept.set h.lw A;have T:∀{b:Nat},b<5->b≠a->RA lo (W'.setCell ⟨P,2+a,none⟩ v') (ve b) (E b):=λ{b} hb hne=>by
  obtain⟨I,e2,D,h2⟩:=h.O3 b hb;refine⟨I,e2,?_,λy hy=>hS.Oh (Y.Oh (h2 y hy))⟩;refine ZV (D.kept U ?_) A jD _ _;cases hk:(ve a).ownBlock with
  |none=>cases (ve b).ownBlock<;>simp
  |some k=>exact .inr (h.mN a b ha hb (ana hne) k hk)
 refine⟨⟨?_,h.lw,λb hb=> ?_,λm hm=> ?_,λb c hb hc C k hk=> ?_,h.mM⟩,Y.trans hS⟩;·have:=A.set (2+a) v';rwa [Be d x ve vs ha] at this
 ·by_cases e:b=a
  ·subst e;rw[XV,XV];refine⟨es++[⟨n,va,vm,vc,rs,us⟩],by rw[acf,he];rfl,?_,λy hy=> ?_⟩;·rw[ay,acb];exact ZV hO A jD _ _
   ·rcases abe.1 hy with hy|hy;·exact hS.Oh (Y.Oh (Z.rs y hy))
    ·rw[aac.1 hy];exact hS.Oh (Y.Oh hr)
  ·rw[X9 _ _ e,X9 _ _ e];exact T hb e
 ·have D:=h.subs m hm;refine ZV (World.ownsRow.kept D U ?_) A jD _ _;cases hk:(ve a).ownBlock with
  |none=>cases (vs m).ownBlock<;>simp
  |some k=>
   obtain⟨cs,hc⟩:=Xq Z.row hk;exact .inr (Ve D hc jD)
 ·have old:∀{b:Nat},b<5->∀k,(ve b).ownBlock=some k->k<W.heap.size:=λ{b} hb k hk=>by
   obtain⟨I,_,D,_⟩:=h.O3 b hb;exact(D.lt k hk).2
  by_cases e:b=a
  ·subst e;rw[XV] at hk;rw[X9 _ _ (ana C)];rcases J with e2|e2
   ·rw[e2] at hk;exact h.mN b c hb hc C k hk
   ·intro e3;have:=old hc k e3;rw[e2] at hk;cases hk;omega
  ·rw[X9 _ _ e] at hk;by_cases e2:c=a
   ·subst e2;rw[XV];rcases J with e3|e3
    ·rw[e3];exact h.mN b c hb hc C k hk
    ·intro e4;have:=old hb k hk;rw[e3] at e4;cases e4;omega
   ·rw[X9 _ _ e2];exact h.mN b c hb hc C k hk
theorem YA.av9(h:YA lo P W d x ve vs E S){a:Nat}(ha:a<2){n c:Nat}(T:W.grownBy W' (vs a).ownBlock)
 {v':Value} {xs:List Value} (hx:xs=[.int .u32 n,.int .u32 c]) (hO:W'.ownsRow lo Ot 2 v' ((S a).length+1) ((S a).flatMap encS++xs)) (J:v'.ownBlock=(vs a).ownBlock\/v'.ownBlock=some W.heap.size):
 YA lo P (W'.setCell ⟨P,7+a,none⟩ v') d x ve (Og vs a v') E (Og S a (S a++[(n,c)]))/\Kept lo P W (W'.setCell ⟨P,7+a,none⟩ v'):=by
 subst hx;have Z:=h.subs a ha;have D:W.ownsRow lo Ot 2 (vs a) (S a).length ((S a).flatMap encS):=Z;have Y:Kept lo P W W':=Kept.grown h.lt D (.inr rfl) T;have A:Z7 W' P Xy (Vf d x ve vs):=h.blk.kept T (λe=>Ve D h.blk jD e.symm);have hS:Kept lo P W' (W'.setCell ⟨P,7+a,none⟩ v'):=Kept.set h.lw A;refine⟨⟨?_,h.lw,λb hb=> ?_,λm hm=> ?_,h.mN,λb c hb hc C k hk=> ?_⟩,Y.trans hS⟩;·have:=A.set (7+a) v';rwa [A9 d x ve vs ha] at this
 ·obtain⟨U,e2,I,h2⟩:=h.O3 b hb;refine⟨U,e2,?_,λy hy=>hS.Oh (Y.Oh (h2 y hy))⟩;refine ZV (I.kept T ?_) A jD _ _;cases hk:(vs a).ownBlock with
  |none=>cases (ve b).ownBlock<;>simp
  |some k=>
   obtain⟨cs,hc⟩:=Xq D hk;exact .inr (Ve I hc jD)
 ·by_cases e:m=a;·subst e;rw[XV,XV];show World.ownsRow _ _ _ _ _ _ _;rw[ay,acb];exact ZV hO A jD _ _
  ·rw[X9 _ _ e,X9 _ _ e];have I:W.ownsRow lo Ot 2 (vs m) (S m).length ((S m).flatMap encS):=h.subs m hm;refine ZV (I.kept T ?_) A jD _ _;cases hk:(vs a).ownBlock with
   |none=>cases (vs m).ownBlock<;>simp
   |some k=>exact .inr (h.mM a m ha hm (ana e) k hk)
 ·have old:∀{b:Nat},b<2->∀k,(vs b).ownBlock=some k->k<W.heap.size:=λ{b} hb k hk=>by
   have I:W.ownsRow lo Ot 2 (vs b) (S b).length ((S b).flatMap encS):=h.subs b hb;exact(I.lt k hk).2
  by_cases e:b=a
  ·subst e;rw[XV] at hk;rw[X9 _ _ (ana C)];rcases J with e2|e2
   ·rw[e2] at hk;exact h.mM b c hb hc C k hk
   ·intro e3;have:=old hc k e3;rw[e2] at hk;cases hk;omega
  ·rw[X9 _ _ e] at hk;by_cases e2:c=a
   ·subst e2;rw[XV];rcases J with e3|e3
    ·rw[e3];exact h.mM b c hb hc C k hk
    ·intro e4;have:=old hb k hk;rw[e3] at e4;cases e4;omega
   ·rw[X9 _ _ e2];exact h.mM b c hb hc C k hk
end
end Go.Proofs.YtclgigmgbebhgaaGreatDoor
