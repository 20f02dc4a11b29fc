/- TopFirst: part 11: Act FnEq ActR TopRes9 TopRes10. -/
import Derived.Test.YtclgigmgbebhgaaGreatDoorF10
set_option linter.unusedVariables false
set_option linter.unusedSimpArgs false
set_option maxRecDepth 100000
set_option maxHeartbeats 16000000
namespace Go.Proofs.YtclgigmgbebhgaaGreatDoor.Yk
open Tryz
open Go Go.Proofs Go.RowKit
def Xl(k:Int):ByteArray:=if k=1 then⟨#[107,105,108,108]⟩ else if k=2 then⟨#[107,105,108,108,95,116,104,114,101,97,100]⟩ else if k=3 then⟨#[116,114,97,112]⟩ else if k=4 then⟨#[101,114,114,110,111]⟩ else if k=5 then⟨#[110,111,116,105,102,121]⟩ else if k=6 then⟨#[116,114,97,99,101]⟩ else if k=7 then⟨#[108,111,103]⟩ else if k=8 then⟨#[97,108,108,111,119]⟩ else⟨#[]⟩
def YU(k:Int):Int:=if k=1 then 2147483648 else if k=2 then 0 else if k=3 then 196608 else if k=4 then 327680 else if k=5 then 2143289344 else if k=6 then 2146435072 else if k=7 then 2147221504 else if k=8 then 2147418112 else 0
def yI(k:Int):Option Int:=if k=4 then some 4095 else if k=6 then some 65535 else none
def YA(k:Int):Int:=if k=4 then 4095 else if k=6 then 65535 else 0
def Zu(k n:Int):Bool:=decide (1<=k/\k<=8/\0<=n/\n<=YA k)
def cn(W:World)(m:Option Int)(v:Value):Prop:=
 match m with
 |none=>v=.nilFunc
 |some n=>∃B,v=.func (.func 344) #[] #[.pointer (some ⟨B,0,none⟩)]/\Z7 W B 3 #[.int .i64 (n+1)]
def Zs(s:Nat):Array Value:=#[.string ⟨#[107,105,108,108]⟩,.int .u32 2147483648,.nilFunc,.string ⟨#[107,105,108,108,95,116,104,114,101,97,100]⟩,.int .u32 0,.nilFunc,.string ⟨#[116,114,97,112]⟩,.int .u32 196608,.nilFunc,.string ⟨#[101,114,114,110,111]⟩,.int .u32 327680,.func (.func 344) #[] #[.pointer (some ⟨s,0,none⟩)],.string ⟨#[110,111,116,105,102,121]⟩,.int .u32 2143289344,.nilFunc,.string ⟨#[116,114,97,99,101]⟩,.int .u32 2146435072,.func (.func 344) #[] #[.pointer (some ⟨s+1,0,none⟩)],.string ⟨#[108,111,103]⟩,.int .u32 2147221504,.nilFunc,.string ⟨#[97,108,108,111,119]⟩,.int .u32 2147418112,.nilFunc]
theorem Nr(n:Int)(w:World):Calls prog 302 #[.int .i64 n] w λe w'=>e=.returned (.func (.func 344) #[] #[.pointer (some ⟨w.heap.size,0,none⟩)])/\w.alloc (.cells #[.int .i64 n] 3)=w':=by
 go_enter func302,ntmps302;go_wp2;go_ret;exact⟨rfl,rfl⟩
theorem Bj(B:Nat)(n:Int)(w:World)(C:Z7 w B 3 #[.int .i64 (n+1)])(I:0<=n)(D:n<=100000):
 Calls prog 344 #[.pointer (some ⟨B,0,none⟩)] w λe w'=>e=.returned (.int .i64 n)/\w=w':=by
 have hc:=C.cell 0;simp only[au,aM] at hc;go_enter func344,ntmps344;go_wp2;go_ret;exact⟨Oy jO,rfl⟩
theorem Wu(w:World):Calls prog 223 #[] w λe w'=>e=.returned (.slice (some ⟨w.heap.size+1+1,0,none⟩) 8 8)/\
 ((w.alloc (.cells #[.int .i64 4096] 3)).alloc (.cells #[.int .i64 65536] 3)).alloc (.cells (Zs w.heap.size) 266)=w':=by
 go_enter func223,ntmps223
 go_wp2_with (go_at_call 302;refine(Nr _ _).mono ?_;rintro e w' ⟨rfl,rfl⟩)
 go_ret;exact⟨rfl,rfl⟩
def Tb(k:Int)(w:World)(e:Ending)(w':World):Prop:=
 ∃mv,e=.returned (.tuple #[.agg #[.string (Xl k),.int .u32 (YU k),mv],.bool true])/\cn w' (yI k) mv/\Below w.heap.size w w'
theorem av2(w:World):Calls prog 143 #[.int .i64 1] w (Tb 1 w):=by
 have a0:(Zs (w.heap.size+1))[0]? =some (.string ⟨#[107,105,108,108]⟩):=rfl;have a1:(Zs (w.heap.size+1))[1]? =some (.int .u32 2147483648):=rfl;have a2:(Zs (w.heap.size+1))[2]? =some (.nilFunc):=rfl;go_enter func143,ntmps143
 go_wp2_with (go_at_call 223;refine(Wu _).mono ?_;rintro e w' ⟨rfl,rfl⟩)
 refine aaf (v:=.tuple #[.agg #[.string ⟨#[107,105,108,108]⟩,.int .u32 2147483648,.nilFunc],.bool true]) (by simp[results,Tryz.results143,go_sem]) rfl ⟨.nilFunc,rfl,rfl,((((aG _ w).alloc (aR _) _).alloc jS _).alloc (by simp;omega) _).alloc (by simp;omega) _⟩
theorem av3(w:World):Calls prog 143 #[.int .i64 2] w (Tb 2 w):=by
 have a0:(Zs (w.heap.size+1))[3]? =some (.string ⟨#[107,105,108,108,95,116,104,114,101,97,100]⟩):=rfl;have a1:(Zs (w.heap.size+1))[4]? =some (.int .u32 0):=rfl;have a2:(Zs (w.heap.size+1))[5]? =some (.nilFunc):=rfl;go_enter func143,ntmps143
 go_wp2_with (go_at_call 223;refine(Wu _).mono ?_;rintro e w' ⟨rfl,rfl⟩)
 refine aaf (v:=.tuple #[.agg #[.string ⟨#[107,105,108,108,95,116,104,114,101,97,100]⟩,.int .u32 0,.nilFunc],.bool true]) (by simp[results,Tryz.results143,go_sem]) rfl ⟨.nilFunc,rfl,rfl,((((aG _ w).alloc (aR _) _).alloc jS _).alloc (by simp;omega) _).alloc (by simp;omega) _⟩
theorem av4(w:World):Calls prog 143 #[.int .i64 3] w (Tb 3 w):=by
 have a0:(Zs (w.heap.size+1))[6]? =some (.string ⟨#[116,114,97,112]⟩):=rfl;have a1:(Zs (w.heap.size+1))[7]? =some (.int .u32 196608):=rfl;have a2:(Zs (w.heap.size+1))[8]? =some (.nilFunc):=rfl;go_enter func143,ntmps143
 go_wp2_with (go_at_call 223;refine(Wu _).mono ?_;rintro e w' ⟨rfl,rfl⟩)
 refine aaf (v:=.tuple #[.agg #[.string ⟨#[116,114,97,112]⟩,.int .u32 196608,.nilFunc],.bool true]) (by simp[results,Tryz.results143,go_sem]) rfl ⟨.nilFunc,rfl,rfl,((((aG _ w).alloc (aR _) _).alloc jS _).alloc (by simp;omega) _).alloc (by simp;omega) _⟩
theorem av5(w:World):Calls prog 143 #[.int .i64 4] w (Tb 4 w):=by
 have a0:(Zs (w.heap.size+1))[9]? =some (.string ⟨#[101,114,114,110,111]⟩):=rfl;have a1:(Zs (w.heap.size+1))[10]? =some (.int .u32 327680):=rfl;have a2:(Zs (w.heap.size+1))[11]? =some (.func (.func 344) #[] #[.pointer (some ⟨w.heap.size+1,0,none⟩)]):=rfl;go_enter func143,ntmps143
 go_wp2_with (go_at_call 223;refine(Wu _).mono ?_;rintro e w' ⟨rfl,rfl⟩)
 refine aaf (v:=.tuple #[.agg #[.string ⟨#[101,114,114,110,111]⟩,.int .u32 327680,.func (.func 344) #[] #[.pointer (some ⟨w.heap.size+1,0,none⟩)]],.bool true]) (by simp[results,Tryz.results143,go_sem]) rfl ⟨.func (.func 344) #[] #[.pointer (some ⟨w.heap.size+1,0,none⟩)],rfl,⟨w.heap.size+1,rfl,by have:=((Z7.new (w.alloc (.cells #[.string ⟨#[101,114,114,110,111]⟩,.int .u32 327680,.func (.func 344) #[] #[.pointer (some ⟨w.heap.size+1,0,none⟩)]] 266)) 3 #[.int .i64 4096]).alloc (.cells #[.int .i64 65536] 3)).alloc (.cells (Zs (w.heap.size+1)) 266);simp only[aj] at this;exact this⟩,((((aG _ w).alloc (aR _) _).alloc jS _).alloc (by simp;omega) _).alloc (by simp;omega) _⟩
theorem cj(w:World):Calls prog 143 #[.int .i64 5] w (Tb 5 w):=by
 have a0:(Zs (w.heap.size+1))[12]? =some (.string ⟨#[110,111,116,105,102,121]⟩):=rfl;have a1:(Zs (w.heap.size+1))[13]? =some (.int .u32 2143289344):=rfl;have a2:(Zs (w.heap.size+1))[14]? =some (.nilFunc):=rfl;go_enter func143,ntmps143
 go_wp2_with (go_at_call 223;refine(Wu _).mono ?_;rintro e w' ⟨rfl,rfl⟩)
 refine aaf (v:=.tuple #[.agg #[.string ⟨#[110,111,116,105,102,121]⟩,.int .u32 2143289344,.nilFunc],.bool true]) (by simp[results,Tryz.results143,go_sem]) rfl ⟨.nilFunc,rfl,rfl,((((aG _ w).alloc (aR _) _).alloc jS _).alloc (by simp;omega) _).alloc (by simp;omega) _⟩
theorem qX(w:World):Calls prog 143 #[.int .i64 6] w (Tb 6 w):=by
 have a0:(Zs (w.heap.size+1))[15]? =some (.string ⟨#[116,114,97,99,101]⟩):=rfl;have a1:(Zs (w.heap.size+1))[16]? =some (.int .u32 2146435072):=rfl;have a2:(Zs (w.heap.size+1))[17]? =some (.func (.func 344) #[] #[.pointer (some ⟨w.heap.size+1+1,0,none⟩)]):=rfl;go_enter func143,ntmps143
 go_wp2_with (go_at_call 223;refine(Wu _).mono ?_;rintro e w' ⟨rfl,rfl⟩)
 refine aaf (v:=.tuple #[.agg #[.string ⟨#[116,114,97,99,101]⟩,.int .u32 2146435072,.func (.func 344) #[] #[.pointer (some ⟨w.heap.size+1+1,0,none⟩)]],.bool true]) (by simp[results,Tryz.results143,go_sem]) rfl ⟨.func (.func 344) #[] #[.pointer (some ⟨w.heap.size+1+1,0,none⟩)],rfl,⟨w.heap.size+1+1,rfl,by have:=(Z7.new ((w.alloc (.cells #[.string ⟨#[116,114,97,99,101]⟩,.int .u32 2146435072,.func (.func 344) #[] #[.pointer (some ⟨w.heap.size+1+1,0,none⟩)]] 266)).alloc (.cells #[.int .i64 4096] 3)) 3 #[.int .i64 65536]).alloc (.cells (Zs (w.heap.size+1)) 266);simp only[aj] at this;exact this⟩,((((aG _ w).alloc (aR _) _).alloc jS _).alloc (by simp;omega) _).alloc (by simp;omega) _⟩
theorem av6(w:World):Calls prog 143 #[.int .i64 7] w (Tb 7 w):=by
 have a0:(Zs (w.heap.size+1))[18]? =some (.string ⟨#[108,111,103]⟩):=rfl;have a1:(Zs (w.heap.size+1))[19]? =some (.int .u32 2147221504):=rfl;have a2:(Zs (w.heap.size+1))[20]? =some (.nilFunc):=rfl;go_enter func143,ntmps143
 go_wp2_with (go_at_call 223;refine(Wu _).mono ?_;rintro e w' ⟨rfl,rfl⟩)
 refine aaf (v:=.tuple #[.agg #[.string ⟨#[108,111,103]⟩,.int .u32 2147221504,.nilFunc],.bool true]) (by simp[results,Tryz.results143,go_sem]) rfl ⟨.nilFunc,rfl,rfl,((((aG _ w).alloc (aR _) _).alloc jS _).alloc (by simp;omega) _).alloc (by simp;omega) _⟩
theorem av7(w:World):Calls prog 143 #[.int .i64 8] w (Tb 8 w):=by
 have a0:(Zs (w.heap.size+1))[21]? =some (.string ⟨#[97,108,108,111,119]⟩):=rfl;have a1:(Zs (w.heap.size+1))[22]? =some (.int .u32 2147418112):=rfl;have a2:(Zs (w.heap.size+1))[23]? =some (.nilFunc):=rfl;go_enter func143,ntmps143
 go_wp2_with (go_at_call 223;refine(Wu _).mono ?_;rintro e w' ⟨rfl,rfl⟩)
 refine aaf (v:=.tuple #[.agg #[.string ⟨#[97,108,108,111,119]⟩,.int .u32 2147418112,.nilFunc],.bool true]) (by simp[results,Tryz.results143,go_sem]) rfl ⟨.nilFunc,rfl,rfl,((((aG _ w).alloc (aR _) _).alloc jS _).alloc (by simp;omega) _).alloc (by simp;omega) _⟩
end Go.Proofs.YtclgigmgbebhgaaGreatDoor.Yk
namespace Go.Proofs.YtclgigmgbebhgaaGreatDoor
open Tryz
open Go
section
variable {P:Program}
theorem Qv(w:World)(d:Nat)(t:TypeId){ps rs:Array TypeId}{v:Bool}(h:P.underlying t=some (.func ps rs v)):(Op.equalIn (d+1) t .nilFunc .nilFunc).run P w=.ok true w:=by
 simp[Op.equalIn,ake h]
theorem Rh(w:World)(d:Nat)(t:TypeId){ps rs:Array TypeId}{v:Bool}(fn:Fn)(a c:Array Value)(h:P.underlying t=some (.func ps rs v)):(Op.equalIn (d+1) t (.func fn a c) .nilFunc).run P w=.ok false w:=by
 simp[Op.equalIn,ake h]
theorem Lv(w:World)(t:TypeId){ps rs:Array TypeId}{v:Bool}(h:P.underlying t=some (.func ps rs v)):(binOp .eql t .nilFunc .nilFunc).run P w=.ok (.bool true) w:=by
 simp only[binOp];simp[Op.equal,Op.maxDepth,Qv w 9999 t h]
theorem M7(w:World)(t:TypeId){ps rs:Array TypeId}{v:Bool}(fn:Fn)(a c:Array Value)(h:P.underlying t=some (.func ps rs v)):(binOp .eql t (.func fn a c) .nilFunc).run P w=.ok (.bool false) w:=by
 simp only[binOp];simp[Op.equal,Op.maxDepth,Rh w 9999 t fn a c h]
end
end Go.Proofs.YtclgigmgbebhgaaGreatDoor
namespace Go.Proofs.YtclgigmgbebhgaaGreatDoor.Yk
open Tryz
open Go Go.Proofs Go.RowKit
theorem cg{n:Nat}{w W:World}(h:Below n w W)(k:Nat):Below n w (W.drewN k):=⟨h.os,h.tape,h.output,h.size,h.block⟩
theorem Ja(s:ByteArray)(c:Int)(w:World):Calls prog 203 #[.agg #[.string s,.int .u32 c,.nilFunc]] w λe w'=>e=.returned (.int .i64 0)/\Below w.heap.size w w':=by
 have C:=λW=>Lv (P:=prog) W 145 underlying145
 go_enter func203,ntmps203;go_wp2;go_ret;exact⟨rfl,(aG _ w).alloc (aR _) _⟩
theorem I9(s:ByteArray)(c n:Int)(B:Nat)(w:World)(D:Z7 w B 3 #[.int .i64 (n+1)])(I:0<=n)(T:n<=100000):
 Calls prog 203 #[.agg #[.string s,.int .u32 c,.func (.func 344) #[] #[.pointer (some ⟨B,0,none⟩)]]] w λe w'=>e=.returned (.int .i64 n)/\Below w.heap.size w w':=by
 have C:=D.alloc (.cells #[.string s,.int .u32 c,.func (.func 344) #[] #[.pointer (some ⟨B,0,none⟩)]] 266);have hc:=Bj B n _ C I T;have J:=aT hc;clear hc C D;have U:=λW fn a c=>M7 (P:=prog) W 145 fn a c underlying145
 go_enter func203,ntmps203
 go_wp2_with (go_at_call 344;refine(J).mono ?_;rintro e w' ⟨rfl,rfl⟩)
 go_ret;exact⟨rfl,(aG _ w).alloc (aR _) _⟩
theorem Gb(k:Int)(D:1<=k)(C:k<=8)(w:World):Calls prog 143 #[.int .i64 k] w (Tb k w):=by
 have h:k=1\/k=2\/k=3\/k=4\/k=5\/k=6\/k=7\/k=8:=jO;rcases h with rfl|rfl|rfl|rfl|rfl|rfl|rfl|rfl;·exact av2 w
 ·exact av3 w
 ·exact av4 w
 ·exact av5 w
 ·exact cj w
 ·exact qX w
 ·exact av6 w
 ·exact av7 w
theorem kP(k:Int)(h:k<1\/8<k)(w:World):Calls prog 143 #[.int .i64 k] w λe w'=>e=.returned (.tuple #[.agg #[.string ⟨#[]⟩,.int .u32 0,.nilFunc],.bool false])/\Below w.heap.size w w':=by
 rcases h with h|h
 all_goals
  go_enter func143,ntmps143
  go_wp2_with (go_at_call 223;refine(Wu _).mono ?_;rintro e w' ⟨rfl,rfl⟩)
  refine aaf (v:=.tuple #[.agg #[.string ⟨#[]⟩,.int .u32 0,.nilFunc],.bool false]) (by simp[results,Tryz.results143,go_sem]) rfl ⟨rfl,?_⟩;exact((((aG _ w).alloc (aR _) _).alloc jS _).alloc (by simp;omega) _).alloc (by simp;omega) _
theorem Ki(k:Int)(T:1<=k)(C:k<=8)(J:k≠4)(I:k≠6)(w:World):
 Calls prog 143 #[.int .i64 k] w λe w'=>e=.returned (.tuple #[.agg #[.string (Xl k),.int .u32 (YU k),.nilFunc],.bool true])/\Below w.heap.size w w':=
 (Gb k T C w).mono λe w' ⟨U,D,hm,hb⟩=>by unfold yI at hm;rw[aN J,aN I] at hm;cases hm;exact⟨D,hb⟩
theorem Bi(k:Int)(hk:k=4\/k=6)(w:World):
 Calls prog 143 #[.int .i64 k] w λe w'=>∃B,e=.returned (.tuple #[.agg #[.string (Xl k),.int .u32 (YU k),.func (.func 344) #[] #[.pointer (some ⟨B,0,none⟩)]],.bool true])/\Z7 w' B 3 #[.int .i64 (YA k+1)]/\Below w.heap.size w w':=
 (Gb k jO jO w).mono λe w' ⟨I,D,hm,hb⟩=>by
   rcases hk with rfl|rfl;·obtain⟨B,rfl,C⟩:=hm;exact⟨B,D,C,hb⟩
   ·obtain⟨B,rfl,C⟩:=hm;exact⟨B,D,C,hb⟩
theorem Bh(k n:Int)(h:k<1\/8<k)(w:World):Calls prog 123 #[.agg #[.int .i64 k,.int .i64 n]] w λe w'=>e=.returned (.bool false)/\Below w.heap.size w w':=by
 go_enter func123,ntmps123
 go_wp2_with (go_at_call 143;refine(kP k h _).mono ?_;rintro e I ⟨rfl,D⟩)
 go_quiet (fail);go_wp2;go_ret;have C:Below w.heap.size w I:=((aG _ w).alloc (aR _) _).trans (D.mono jS);exact⟨rfl,cg (C.alloc C.size _) _⟩
theorem Lu(k n:Int)(Z:1<=k)(J:k<=8)(Y:k≠4)(U:k≠6)(hn:n<0)(w:World):Calls prog 123 #[.agg #[.int .i64 k,.int .i64 n]] w λe w'=>e=.returned (.bool false)/\Below w.heap.size w w':=by
 have hd:decide (0<=n)=false:=by simpa using hn
 go_enter func123,ntmps123
 go_wp2_with (go_at_call 143;refine(Ki k Z J Y U _).mono ?_;rintro e T ⟨rfl,D⟩)
 have I:=(((Z7.new w 48 #[.int .i64 k,.int .i64 n]).below D jS).alloc (.cells #[.string (Xl k),.int .u32 (YU k),.nilFunc] 266)).cell 1;simp only[au,aM,aH] at I;go_quiet (fail);go_wp2;go_ret;have C:Below w.heap.size w T:=((aG _ w).alloc (aR _) _).trans (D.mono jS);exact⟨rfl,cg (C.alloc C.size _) _⟩
theorem DD(k n:Int)(h1:1<=k)(Y:k<=8)(h4:k≠4)(Z:k≠6)(hn:0<=n)(w:World):Calls prog 123 #[.agg #[.int .i64 k,.int .i64 n]] w λe w'=>e=.returned (.bool (decide (n<=0)))/\Below w.heap.size w w':=by
 have hd:decide (0<=n)=true:=by simpa using hn
 go_enter func123,ntmps123
 go_wp2_with (go_at_call 143;refine(Ki k h1 Y h4 Z _).mono ?_;rintro e J ⟨rfl,D⟩)
 have U:=D.size;simp at U;have T:=(((Z7.new w 48 #[.int .i64 k,.int .i64 n]).below D jS).alloc (.cells #[.string (Xl k),.int .u32 (YU k),.nilFunc] 266)).cell 1;simp only[au,aM,aH] at T
 go_region_held3 (λw'=>w'.cell? ⟨w.heap.size,1,none⟩=some (.int .i64 n)/\w'.cell? ⟨J.heap.size,0,none⟩=some (.string (Xl k))/\w'.cell? ⟨J.heap.size,1,none⟩=some (.int .u32 (YU k))/\w'.cell? ⟨J.heap.size,2,none⟩=some .nilFunc) (first|go_keep|exact⟨cell_later C (by first|assumption|simp),cell_later C (by first|assumption|simp),cell_later C (by first|assumption|simp),cell_later C (by first|assumption|simp)⟩) (first|(go_at_call 203;refine(Ja _ _ _).mono ?_;rintro e w2 ⟨rfl,C⟩))
 go_wp2;go_ret;have I:Below w.heap.size w J:=((aG _ w).alloc (aR _) _).trans (D.mono jS);exact⟨rfl,(I.alloc I.size _).drew.trans (C.mono (by simp;omega))⟩
theorem I8(k n:Int)(hk:k=4\/k=6)(hn:n<0)(w:World):Calls prog 123 #[.agg #[.int .i64 k,.int .i64 n]] w λe w'=>e=.returned (.bool false)/\Below w.heap.size w w':=by
 have hd:decide (0<=n)=false:=by simpa using hn
 have T:=aT hk;clear hk;go_enter func123,ntmps123
 go_wp2_with (go_at_call 143;refine(Bi k T _).mono ?_;rintro e J ⟨B,rfl,U,D⟩)
 have I:=(((Z7.new w 48 #[.int .i64 k,.int .i64 n]).below D jS).alloc (.cells #[.string (Xl k),.int .u32 (YU k),.func (.func 344) #[] #[.pointer (some ⟨B,0,none⟩)]] 266)).cell 1;simp only[au,aM,aH] at I;go_quiet (fail);go_wp2;go_ret;have C:Below w.heap.size w J:=((aG _ w).alloc (aR _) _).trans (D.mono jS);exact⟨rfl,cg (C.alloc C.size _) _⟩
theorem vL(k n:Int)(hk:k=4\/k=6)(hn:0<=n)(w:World):Calls prog 123 #[.agg #[.int .i64 k,.int .i64 n]] w λe w'=>e=.returned (.bool (decide (n<=YA k)))/\Below w.heap.size w w':=by
 have hd:decide (0<=n)=true:=by simpa using hn
 have g0:0<=YA k:=by rcases hk with rfl|rfl<;>decide
 have g1:YA k<=100000:=by rcases hk with rfl|rfl<;>decide
 generalize hg:YA k=g at g0 g1;have Hg:=aT hg;have Hk:=aT hk;clear hk hg;go_enter func123,ntmps123
 go_wp2_with (go_at_call 143;refine(Bi k Hk _).mono ?_;rintro e T ⟨B,rfl,U,D⟩)
 rw[Hg.out] at U;have Y:=(((Z7.new w 48 #[.int .i64 k,.int .i64 n]).below D jS).alloc (.cells #[.string (Xl k),.int .u32 (YU k),.func (.func 344) #[] #[.pointer (some ⟨B,0,none⟩)]] 266)).cell 1;simp only[au,aM,aH] at Y;have Z:=D.size;simp at Z;have J:=U.alloc (.cells #[.string (Xl k),.int .u32 (YU k),.func (.func 344) #[] #[.pointer (some ⟨B,0,none⟩)]] 266);have HB:=aT J;clear J U
 go_region_held3 (λw'=>w'.cell? ⟨w.heap.size,1,none⟩=some (.int .i64 n)/\w'.cell? ⟨T.heap.size,0,none⟩=some (.string (Xl k))/\w'.cell? ⟨T.heap.size,1,none⟩=some (.int .u32 (YU k))/\w'.cell? ⟨T.heap.size,2,none⟩=some (.func (.func 344) #[] #[.pointer (some ⟨B,0,none⟩)])) (first|go_keep|exact⟨cell_later C (by first|assumption|simp),cell_later C (by first|assumption|simp),cell_later C (by first|assumption|simp),cell_later C (by first|assumption|simp)⟩) (first|(go_at_call 203;refine(I9 _ _ g B _ (by exact HB) g0 g1).mono ?_;rintro e w2 ⟨rfl,C⟩))
 go_wp2;go_ret;have I:Below w.heap.size w T:=((aG _ w).alloc (aR _) _).trans (D.mono jS);exact⟨rfl,(I.alloc I.size _).drew.trans (C.mono (by simp;omega))⟩
theorem X0(k n:Int)(w:World):Calls prog 123 #[.agg #[.int .i64 k,.int .i64 n]] w λe w'=>e=.returned (.bool (Zu k n))/\Below w.heap.size w w':=by
 unfold Zu;by_cases hk:1<=k/\k<=8
 ·obtain⟨J,I⟩:=hk;by_cases C:k=4\/k=6
  ·by_cases hn:0<=n
   ·refine(vL k n C hn w).mono λe w' ⟨D,hb⟩=>⟨D.trans (Gz ?_),hb⟩
    simp[J,I,hn]
   ·refine(I8 k n C jO w).mono λe w' ⟨D,hb⟩=>⟨D.trans (Gz ?_),hb⟩
    simp[hn]
  ·have e0:YA k=0:=by unfold YA;rw[aN (λh=>C (.inl h)),aN (λh=>C (.inr h))]
   by_cases hn:0<=n
   ·refine(DD k n J I (λh=>C (.inl h)) (λh=>C (.inr h)) hn w).mono λe w' ⟨D,hb⟩=>⟨D.trans (Gz ?_),hb⟩
    simp[J,I,hn,e0]
   ·refine(Lu k n J I (λh=>C (.inl h)) (λh=>C (.inr h)) jO w).mono λe w' ⟨D,hb⟩=>⟨D.trans (Gz ?_),hb⟩
    simp[hn]
 ·refine(Bh k n jO w).mono λe w' ⟨D,hb⟩=>⟨D.trans (Gz ?_),hb⟩
  simp;omega
theorem Rf(k n:Int)(hr:Zu k n=true):0<=YU k+n/\YU k+n<4294967296/\0<=n/\n<=65535/\1<=k/\k<=8/\0<=YU k/\YU k<=2147483648:=by
 unfold Zu at hr;simp only[adf] at hr;obtain⟨D,C,I,J⟩:=hr;have h:k=1\/k=2\/k=3\/k=4\/k=5\/k=6\/k=7\/k=8:=jO;rcases h with rfl|rfl|rfl|rfl|rfl|rfl|rfl|rfl<;>simp[YA,YU] at*<;>omega
theorem Bg(k n:Int)(hr:Zu k n=true)(h4:k≠4)(Z:k≠6)(w:World):Calls prog 90 #[.agg #[.int .i64 k,.int .i64 n]] w λe w'=>e=.returned (.tuple #[.int .u32 (YU k+n),.int .i64 0])/\Below w.heap.size w w':=by
 have hc:=X0 k n;obtain⟨c0,c1,n0,n1,U,Y,d0,d1⟩:=Rf k n hr;rw[hr] at hc;have Hc:=aT hc;clear hc hr;go_enter func90,ntmps90
 go_wp2_with (first|(go_at_call 123;refine(Hc _).mono ?_;rintro e w1 ⟨rfl,C⟩;have I:=(((Z7.new w 48 #[.int .i64 k,.int .i64 n]).below C jS)).cell 0;have J:=(((Z7.new w 48 #[.int .i64 k,.int .i64 n]).below C jS)).cell 1;have s1:=C.size;simp only[au,aM,aH] at I J;simp at s1)|(go_at_call 143;refine(Ki k U Y h4 Z _).mono ?_;rintro e w2 ⟨rfl,D⟩;have T:=((((Z7.new w 48 #[.int .i64 k,.int .i64 n]).below C jS).below D jO).alloc (.cells #[.string (Xl k),.int .u32 (YU k),.nilFunc] 266)).cell 1;simp only[au,aM,aH] at T;have s2:=D.size))
 go_ret2;exact⟨rfl,(((((aG _ w).alloc (aR _) _).trans (C.mono jS)).trans (D.mono jO)).alloc jO _)⟩
theorem qW(k n:Int)(hr:Zu k n=true)(hk:k=4\/k=6)(w:World):Calls prog 90 #[.agg #[.int .i64 k,.int .i64 n]] w λe w'=>e=.returned (.tuple #[.int .u32 (YU k+n),.int .i64 0])/\Below w.heap.size w w':=by
 have hc:=X0 k n;obtain⟨c0,c1,n0,n1,k1,k8,d0,d1⟩:=Rf k n hr;rw[hr] at hc;have Y:=aT hc;clear hc hr;have U:=aT hk;clear hk;go_enter func90,ntmps90
 go_wp2_with (first|(go_at_call 123;refine(Y _).mono ?_;rintro e Z ⟨rfl,C⟩;have I:=(((Z7.new w 48 #[.int .i64 k,.int .i64 n]).below C jS)).cell 0;have J:=(((Z7.new w 48 #[.int .i64 k,.int .i64 n]).below C jS)).cell 1;have s1:=C.size;simp only[au,aM,aH] at I J;simp at s1)|(go_at_call 143;refine(Bi k U _).mono ?_;rintro e w2 ⟨B,rfl,hB,D⟩;have T:=((((Z7.new w 48 #[.int .i64 k,.int .i64 n]).below C jS).below D jO).alloc (.cells #[.string (Xl k),.int .u32 (YU k),.func (.func 344) #[] #[.pointer (some ⟨B,0,none⟩)]] 266)).cell 1;simp only[au,aM,aH] at T;have s2:=D.size))
 go_ret2;exact⟨rfl,(((((aG _ w).alloc (aR _) _).trans (C.mono jS)).trans (D.mono jO)).alloc jO _)⟩
end Go.Proofs.YtclgigmgbebhgaaGreatDoor.Yk
namespace Go.Proofs.YtclgigmgbebhgaaGreatDoor
open Tryz
open Go Go.Proofs Go.RowKit
variable {a m:Nat}
def Xf(l:List Z4.Z1)(r:NR):Bool:=Ri l r.nm&&decide (0<r.cs.length)
theorem I7{N L c:Nat}{a:Option Addr}{rs:List NR}{k n:Int}{x:Bool}(sv:Value)(l:List Z4.Z1)(hL:rs.length=L)(U:L<=1000000)(w:World)(h:Uv N w a rs)(hN:N<=w.heap.size)(Z:l.length<=1000000)(hR:Z4.Xv w sv l)(hT:Z4.ZA l):
 Calls prog 35 #[.agg #[.int .i64 k,.int .i64 n,.bool x,.slice a L c],sv] w λe w'=>∃z:Int,e=.returned (.tuple #[.int .i64 z,.bool (!rs.any (Xf l))])/\Below w.heap.size w w':=by
 obtain⟨sa,sc,rfl,-⟩:=id hR;obtain⟨sv,hsv⟩:∃v:Value,Value.slice sa l.length sc=v:=⟨_,rfl⟩;rw[hsv] at hR ⊢;obtain⟨qs,hq1,J,I⟩:=h.rows;have C:=Kz w (.cells #[.int .i64 k,.int .i64 n,.bool x,.slice a L c] VQ) (.cells #[sv] 41);have HP:=aT ((Z7.new w VQ #[.int .i64 k,.int .i64 n,.bool x,.slice a L c]).alloc (.cells #[sv] 41));have HS:=aT (Z7.OY w (.cells #[.int .i64 k,.int .i64 n,.bool x,.slice a L c] VQ) 41 #[sv]);have D:(List.range L).any (λi=>match rs[i]? with|some r=>Xf l r|none=>false)=rs.any (Xf l):=by
  rw[ajd,aka,aka];constructor
  ·rintro⟨i,hi,e⟩;cases hr:rs[i]? with
   |none=>rw[hr] at e;cases e
   |some r=>rw[hr] at e;exact⟨r,ag hr,e⟩
  ·rintro⟨r,hr,e⟩;obtain⟨i,hi,rfl⟩:=aid.1 hr;refine⟨i,aib.2 jO,?_⟩;rw[aL hi];exact e
 have Y:=C.size;have hc:=DV (c:=c) (λi=>match rs[i]? with|some r=>Xf l r|none=>false) 84 #[.pointer (some ⟨w.heap.size+1,0,none⟩)] (enters_of func84 jK rfl) (hq1.trans hL) U ((w.alloc (.cells #[.int .i64 k,.int .i64 n,.bool x,.slice a L c] VQ)).alloc (.cells #[sv] 41)) (λi q hq=>by
  obtain⟨g,off,h1,h2,h3,h4,h5,h6⟩:=J i q hq;exact⟨g,off,h1,h2,ZY C hN h2 h3,ZY C hN h2 h4,ZY C hN h2 h5,ZY C hN h2 h6⟩) (aO hN Y) (λW i q hb hq=>by
  have hi:i<rs.length:=by have:=(ak.1 hq).1;omega
  obtain⟨r,hr⟩:∃r,rs[i]? =some r:=⟨_,aL hi⟩;obtain⟨h1,_,_,h4⟩:=I i q r hq hr;have e:(match rs[i]? with|some r=>Xf l r|none=>false)=(Ri l q.nm&&decide (0<r.cs.length)):=by rw[hr,h1];rfl
  rw[e];obtain⟨ua,uc,e2,_⟩:=h4;rw[e2];have hk:Below w.heap.size w W:=C.trans (hb.mono Y);exact vM sv l W Z (hR.below hk) hT (HS.below hb HS.lt))
 rw[D] at hc;have HC:=aT hc;have HB:=aT C;clear hc D hq1 J I h hR hT HS C;subst hsv;generalize rs.any (Xf l)=b at*;go_enter func35,ntmps35;go_upto_region 1 with fail;generalize (w.alloc (.cells #[.int .i64 k,.int .i64 n,.bool x,.slice a L c] VQ)).alloc (.cells #[.slice sa l.length sc] 41)=w2 at*;obtain⟨⟨_,_,_,p3⟩,_⟩:=Z8 HP;go_wp2_with fail;refine HC.mono ?_;rintro e w3 ⟨z,rfl,hz,hz1,hb3⟩;have T:=aT (HB.trans (hb3.mono HB.size));clear hb3;cases b with
 |false=>
  have hz2:z<0:=by have:=aqg hz;omega
  clear hz;go_wp2_with fail;go_ret2;exact⟨max z 0,by simp[hz2],T⟩
 |true=>
  have hz2:0<=z:=agc hz;have hz3:¬z<0:=jO;clear hz;go_wp2_with fail;go_ret2;exact⟨max z 0,by simp[hz3],T⟩
def YM(k n:Int):Nat:=(Yk.YU k+n).toNat
theorem Kh{k n:Int}(h:Yk.Zu k n=true):YM k n<4294967296/\((YM k n:Nat):Int)=Yk.YU k+n:=by
 obtain⟨c0,c1,n0,n1,C,D,I,J⟩:=Yk.Rf k n h;unfold YM;omega
theorem DC(k n:Int)(hr:Yk.Zu k n=true)(w:World):Calls prog 90 #[.agg #[.int .i64 k,.int .i64 n]] w λe w'=>e=.returned (.tuple #[.int .u32 (Yk.YU k+n),.int .i64 0])/\Below w.heap.size w w':=by
 by_cases hk:k=4\/k=6;·exact Yk.qW k n hr hk w
 ·exact Yk.Bg k n hr (λh=>hk (.inl h)) (λh=>hk (.inr h)) w
theorem Ie(k n:Int)(hr:Yk.Zu k n=true)(w:World):Calls prog 37 #[.agg #[.int .i64 k,.int .i64 n]] w λe w'=>e=.returned (.int .u32 (YM k n:Int))/\Below w.heap.size w w':=by
 have D:=(Kh hr).2;have hb:=Yx w (.cells #[.int .i64 k,.int .i64 n] 48);have J:=aT (DC k n hr (w.alloc (.cells #[.int .i64 k,.int .i64 n] 48)));rw[<-D] at J;generalize YM k n=cd at*;have I:=aT hb;clear D hb hr;have T:=aT (Z7.new w 48 #[.int .i64 k,.int .i64 n]);go_enter func37,ntmps37;go_upto_region 1 with fail;generalize w.alloc (.cells #[.int .i64 k,.int .i64 n] 48)=w1 at*;obtain⟨p0,p1⟩:=T.q2;go_wp2_with fail;refine J.mono ?_;rintro e U ⟨rfl,hb⟩;have C:=aT (I.trans (hb.mono I.size));clear hb;go_wp2_with fail;go_ret;exact⟨rfl,C⟩
abbrev Xk:=Nat×List Z3
theorem kO:(prog.info? Oj).map (λi=>(i.zero,i.size,i.bytes))=some (some (.agg #[.int .u32 0,.slice none 0 0]),2,32):=jK
theorem kN:(prog.info? Ob).map (λi=>(i.zero,i.size,i.bytes))=some (some (.agg #[.int .u32 0,.int .u32 0]),2,8):=jK
structure Kept(lo P:Nat)(W W':World):Prop where
 Zr:Below lo W W'
 size:W.heap.size<=W'.heap.size
 keep:∀k t cs,Z7 W k t cs->t≠Oj->t≠Ob->t≠Xw->Z7 W' k t cs
 yH:∀k cs,Z7 W k Xw cs->k≠P->Z7 W' k Xw cs
section
variable {lo P:Nat} {W W' W2:World}
theorem Kept.refl(lo P:Nat)(W:World):Kept lo P W W:=⟨aG _ _,aR _,λ_ _ _ h _ _ _=>h,λ_ _ h _=>h⟩
theorem Kept.trans(h:Kept lo P W W')(D:Kept lo P W' W2):Kept lo P W W2:=⟨h.Zr.trans D.Zr,aO h.size D.size,λk t cs hb C I J=>D.keep k t cs (h.keep k t cs hb C I J) C I J,λk cs hb C=>D.yH k cs (h.yH k cs hb C) C⟩
theorem Kept.M6(C:lo<=W.heap.size)(hb:Below W.heap.size W W'):Kept lo P W W':=⟨hb.mono C,hb.size,λ_ _ _ h _ _ _=>h.below hb h.lt,λ_ _ h _=>h.below hb h.lt⟩
theorem Kept.drew(C:lo<=W.heap.size):Kept lo P W W.drew:=Kept.M6 C (aG _ _).drew
theorem Kept.grown{e s n:Nat}{v:Value}{xs:List Value}(J:lo<=W.heap.size)(hv:W.ownsRow lo e s v n xs)(Y:e=Oj\/e=Ob)(I:W.grownBy W' v.ownBlock):Kept lo P W W':=by
 have C:∀k t cs,Z7 W k t cs->t≠Oj->t≠Ob->Z7 W' k t cs:=λk t cs hb U D=>hb.kept I (λe2=>by
  obtain⟨cs',T⟩:=Xm hv e2.symm;have:=TJ hb T;rcases Y with rfl|rfl;·exact U this
  ·exact D this)
 exact⟨(aG lo W).grown I J (λk e=>(hv.lt k e).1),I.size,λk t cs hb U D _=>C k t cs hb U D,λk cs hb _=>C k Xw cs hb jD jD⟩
theorem Kept.set{j:Nat}{u:Value}{cs:Array Value}(C:lo<=P)(hb:Z7 W P Xw cs):Kept lo P W (W.setCell ⟨P,j,none⟩ u):=by
 refine⟨(aG lo W).setCell (p:=⟨P,j,none⟩) C u,jS,λk t cs' hk D J I=>hk.other (λe=> ?_) j u,λk cs' hk D=>hk.other D j u⟩;subst e;exact I (TJ hk hb)
theorem Kept.row{e s n b:Nat}{v:Value}{xs:List Value}(h:Kept lo P W W')(hv:W.ownsRow b e s v n xs)(T:e≠Oj)(I:e≠Ob)(D:e≠Xw):W'.ownsRow b e s v n xs:=by
 refine⟨hv.1,?_⟩;rcases hv.2 with U|⟨g,cap,C,e1,e2,J,e3⟩;·exact .inl U
 ·exact .inr ⟨g,cap,C,e1,e2,h.keep g e C J T I D,e3⟩
theorem Kept.N3{b:Nat}{v:Value}{rs:List Z3}{us:List Value}(h:Kept lo P W W')(C:Yd b W v rs us):Yd b W' v rs us:=
 ⟨C.len,h.row C.row jD jD jD,λj u r hu hr=>h.row (C.cs j u r hu hr) jD jD jD⟩
theorem Kept.YK{b:Nat}{v:Value}{rs:List NR}{us:List Value}(h:Kept lo P W W')(C:TK b W v rs us):TK b W' v rs us:=
 ⟨C.len,h.row C.row jD jD jD,λj u r hu hr=>h.row (C.cs j u r hu hr) jD jD jD⟩
end
structure kM(lo:Nat)(W:World)(v:Value)(es:List Lx):Prop where
 row:W.ownsRow lo Oj 2 v es.length (es.flatMap Jb)
 rs:∀x∈es,Yd lo W (.slice x.a x.m x.c) x.rs x.us
def Re(lo:Nat)(W:World)(v:Value)(l:List Xk):Prop:=∃es:List Lx,es.map (λx=>(x.n,x.rs))=l/\kM lo W v es
def Mw(lo:Nat)(W:World)(v:Value)(l:List (Nat×Nat)):Prop:=W.ownsRow lo Ob 2 v l.length (l.flatMap encS)
def U5(d:Nat)(x:Bool)(ve vs:Nat->Value):Array Value:=#[.int .u32 d,.bool x,ve 0,ve 1,ve 2,ve 3,ve 4,vs 0,vs 1]
def N2{α:Type}(f:Nat->α)(a:Nat)(u:α):Nat->α:=λb=>if b=a then u else f b
theorem XQ{α:Type}(f:Nat->α)(a:Nat)(u:α):N2 f a u a=u:=aF rfl
theorem X4{α:Type}(f:Nat->α){b:Nat}(u:α)(h:b≠a):N2 f a u b=f b:=aN h
theorem Lf(d:Nat)(x:Bool)(ve vs:Nat->Value) (ha:a<5):(U5 d x ve vs)[2+a]? =some (ve a):=by
 rcases (show a=0\/a=1\/a=2\/a=3\/a=4 from jO) with rfl|rfl|rfl|rfl|rfl<;>rfl
theorem Le(d:Nat)(x:Bool)(ve vs:Nat->Value) (hm:m<2):(U5 d x ve vs)[7+m]? =some (vs m):=by
 rcases (show m=0\/m=1 from jO) with rfl|rfl<;>rfl
theorem Bf(d:Nat)(x:Bool)(ve vs:Nat->Value) (ha:a<5)(u:Value):(U5 d x ve vs).setIfInBounds (2+a) u=U5 d x (N2 ve a u) vs:=by
 rcases (show a=0\/a=1\/a=2\/a=3\/a=4 from jO) with rfl|rfl|rfl|rfl|rfl<;>rfl
theorem Be(d:Nat)(x:Bool)(ve vs:Nat->Value) (hm:m<2)(u:Value):(U5 d x ve vs).setIfInBounds (7+m) u=U5 d x ve (N2 vs m u):=by
 rcases (show m=0\/m=1 from jO) with rfl|rfl<;>rfl
structure Yt(lo P:Nat)(W:World)(d:Nat)(x:Bool)(ve vs:Nat->Value)(E:Nat->List Xk)(S:Nat->List (Nat×Nat)):Prop where
 blk:Z7 W P Xw (U5 d x ve vs)
 lw:lo<=P
 OT:∀a,a<5->Re lo W (ve a) (E a)
 subs:∀m,m<2->Mw lo W (vs m) (S m)
 mW:∀a b,a<5->b<5->a≠b->∀k,(ve a).ownBlock=some k->(ve b).ownBlock≠some k
 mV:∀a b,a<2->b<2->a≠b->∀k,(vs a).ownBlock=some k->(vs b).ownBlock≠some k
section
variable {lo P:Nat} {W W':World} {d:Nat} {x:Bool} {ve vs:Nat->Value} {E:Nat->List Xk} {S:Nat->List (Nat×Nat)}
theorem Re.Zr{v:Value}{l:List Xk}(h:Re lo W v l)(hb:Below W.heap.size W W'):Re lo W' v l:=by
 obtain⟨es,e,C,D⟩:=h;exact⟨es,e,ZC C hb,λx hx=>(D x hx).Zr hb⟩
theorem Yt.Zr(h:Yt lo P W d x ve vs E S)(hb:Below W.heap.size W W'):Yt lo P W' d x ve vs E S:=
 ⟨h.blk.below hb h.blk.lt,h.lw,λa ha=>(h.OT a ha).Zr hb,λm hm=>ZC (h.subs m hm) hb,h.mW,h.mV⟩
theorem Yt.lt(h:Yt lo P W d x ve vs E S):lo<=W.heap.size:=aO h.lw (acf h.blk.lt)
theorem U4{e s n b k t:Nat}{v:Value}{xs:List Value}{cs:Array Value}(h:W.ownsRow b e s v n xs)(hb:Z7 W k t cs)(ht:e≠t):v.ownBlock≠some k:=λe2=>by
 obtain⟨cs',C⟩:=Xm h e2;exact ht (TJ C hb)
theorem Yt.av8(h:Yt lo P W d x ve vs E S){a:Nat}(ha:a<5){n:Nat}{va:Option Addr}{vm vc:Nat}{rs:List Z3}{us:List Value}(hr:Yd lo W (.slice va vm vc) rs us)(hg:W.grownBy W' (ve a).ownBlock)
 {v':Value} {xs:List Value} (hx:xs=[.int .u32 n,.slice va vm vc]) {es:List Lx} (he:es.map (λx=>(x.n,x.rs))=E a) (Y:kM lo W (ve a) es) (hO:W'.ownsRow lo Oj 2 v' (es.length+1) (es.flatMap Jb++xs)) (J:v'.ownBlock=(ve a).ownBlock\/v'.ownBlock=some W.heap.size):
 Yt lo P (W'.setCell ⟨P,2+a,none⟩ v') d x (N2 ve a v') vs (N2 E a (E a++[(n,rs)])) S/\Kept lo P W (W'.setCell ⟨P,2+a,none⟩ v'):=by
 subst hx;have Z:Kept lo P W W':=Kept.grown h.lt Y.row (.inl rfl) hg;have C:Z7 W' P Xw (U5 d x ve vs):=h.blk.kept hg (λe=>U4 Y.row h.blk jD e.symm);have hS:Kept lo P W' (W'.setCell ⟨P,2+a,none⟩ v'):=Kept.set h.lw C;have U:∀{b:Nat},b<5->b≠a->Re lo (W'.setCell ⟨P,2+a,none⟩ v') (ve b) (E b):=λ{b} hb hne=>by
  obtain⟨T,e2,I,h2⟩:=h.OT b hb;refine⟨T,e2,?_,λy hy=>hS.N3 (Z.N3 (h2 y hy))⟩;refine ZV (I.kept hg ?_) C jD _ _;cases hk:(ve a).ownBlock with
  |none=>cases (ve b).ownBlock<;>simp
  |some k=>exact .inr (h.mW a b ha hb (ame hne) k hk)
 refine⟨⟨?_,h.lw,λb hb=> ?_,λm hm=> ?_,λb c hb hc D k hk=> ?_,h.mV⟩,Z.trans hS⟩;·have:=C.set (2+a) v';rwa [Bf d x ve vs ha] at this
 ·by_cases e:b=a
  ·subst e;rw[XQ,XQ];refine⟨es++[⟨n,va,vm,vc,rs,us⟩],by rw[ada,he];rfl,?_,λy hy=> ?_⟩;·rw[ay,aca];exact ZV hO C jD _ _
   ·rcases abf.1 hy with hy|hy;·exact hS.N3 (Z.N3 (Y.rs y hy))
    ·rw[aaa.1 hy];exact hS.N3 (Z.N3 hr)
  ·rw[X4 _ _ e,X4 _ _ e];exact U hb e
 ·have I:=h.subs m hm;refine ZV (World.ownsRow.kept I hg ?_) C jD _ _;cases hk:(ve a).ownBlock with
  |none=>cases (vs m).ownBlock<;>simp
  |some k=>
   obtain⟨cs,hc⟩:=Xm Y.row hk;exact .inr (U4 I hc jD)
 ·have old:∀{b:Nat},b<5->∀k,(ve b).ownBlock=some k->k<W.heap.size:=λ{b} hb k hk=>by
   obtain⟨T,_,I,_⟩:=h.OT b hb;exact(I.lt k hk).2
  by_cases e:b=a
  ·subst e;rw[XQ] at hk;rw[X4 _ _ (ame D)];rcases J with e2|e2
   ·rw[e2] at hk;exact h.mW b c hb hc D k hk
   ·intro e3;have:=old hc k e3;rw[e2] at hk;cases hk;omega
  ·rw[X4 _ _ e] at hk;by_cases e2:c=a
   ·subst e2;rw[XQ];rcases J with e3|e3
    ·rw[e3];exact h.mW b c hb hc D k hk
    ·intro e4;have:=old hb k hk;rw[e3] at e4;cases e4;omega
   ·rw[X4 _ _ e2];exact h.mW b c hb hc D k hk
theorem Yt.av9(h:Yt lo P W d x ve vs E S){a:Nat}(ha:a<2){n c:Nat}(U:W.grownBy W' (vs a).ownBlock)
 {v':Value} {xs:List Value} (hx:xs=[.int .u32 n,.int .u32 c]) (hO:W'.ownsRow lo Ob 2 v' ((S a).length+1) ((S a).flatMap encS++xs)) (T:v'.ownBlock=(vs a).ownBlock\/v'.ownBlock=some W.heap.size):
 Yt lo P (W'.setCell ⟨P,7+a,none⟩ v') d x ve (N2 vs a v') E (N2 S a (S a++[(n,c)]))/\Kept lo P W (W'.setCell ⟨P,7+a,none⟩ v'):=by
 subst hx;have hE:=h.subs a ha;have I:W.ownsRow lo Ob 2 (vs a) (S a).length ((S a).flatMap encS):=hE;have Z:Kept lo P W W':=Kept.grown h.lt I (.inr rfl) U;have C:Z7 W' P Xw (U5 d x ve vs):=h.blk.kept U (λe=>U4 I h.blk jD e.symm);have hS:Kept lo P W' (W'.setCell ⟨P,7+a,none⟩ v'):=Kept.set h.lw C;refine⟨⟨?_,h.lw,λb hb=> ?_,λm hm=> ?_,h.mW,λb c hb hc D k hk=> ?_⟩,Z.trans hS⟩;·have:=C.set (7+a) v';rwa [Be d x ve vs ha] at this
 ·obtain⟨Y,e2,J,h2⟩:=h.OT b hb;refine⟨Y,e2,?_,λy hy=>hS.N3 (Z.N3 (h2 y hy))⟩;refine ZV (J.kept U ?_) C jD _ _;cases hk:(vs a).ownBlock with
  |none=>cases (ve b).ownBlock<;>simp
  |some k=>
   obtain⟨cs,hc⟩:=Xm I hk;exact .inr (U4 J hc jD)
 ·by_cases e:m=a;·subst e;rw[XQ,XQ];show World.ownsRow _ _ _ _ _ _ _;rw[ay,aca];exact ZV hO C jD _ _
  ·rw[X4 _ _ e,X4 _ _ e];have J:W.ownsRow lo Ob 2 (vs m) (S m).length ((S m).flatMap encS):=h.subs m hm;refine ZV (J.kept U ?_) C jD _ _;cases hk:(vs a).ownBlock with
   |none=>cases (vs m).ownBlock<;>simp
   |some k=>exact .inr (h.mV a m ha hm (ame e) k hk)
 ·have old:∀{b:Nat},b<2->∀k,(vs b).ownBlock=some k->k<W.heap.size:=λ{b} hb k hk=>by
   have J:W.ownsRow lo Ob 2 (vs b) (S b).length ((S b).flatMap encS):=h.subs b hb;exact(J.lt k hk).2
  by_cases e:b=a
  ·subst e;rw[XQ] at hk;rw[X4 _ _ (ame D)];rcases T with e2|e2
   ·rw[e2] at hk;exact h.mV b c hb hc D k hk
   ·intro e3;have:=old hc k e3;rw[e2] at hk;cases hk;omega
  ·rw[X4 _ _ e] at hk;by_cases e2:c=a
   ·subst e2;rw[XQ];rcases T with e3|e3
    ·rw[e3];exact h.mV b c hb hc D k hk
    ·intro e4;have:=old hb k hk;rw[e3] at e4;cases e4;omega
   ·rw[X4 _ _ e2];exact h.mV b c hb hc D k hk
end
end Go.Proofs.YtclgigmgbebhgaaGreatDoor
