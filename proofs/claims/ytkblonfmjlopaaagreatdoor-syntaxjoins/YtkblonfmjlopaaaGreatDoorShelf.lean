/-
  The library contracts at this dump: which number here is which number there, and one application a contract.
-/
import Derived.Shelf.Strings.Trim
import Derived.Shelf.Small.Strs
import Derived.Shelf.Small.Wraps
import Derived.Shelf.Strings.BuilderF
import Derived.Shelf.Strconv.Itoa3
import Derived.Shelf.Strconv.AtoiAll
import Derived.Shelf.Strings.Fields
import Derived.Shelf.Strings.Replace
import Derived.Shelf.Bits.Mul64
import Derived.Shelf.Unicode.DecodeLast
import Derived.Shelf.Slices.Turned
import Derived.Ground.SlgnProg
import Derived.Test.YtkblonfmjlopaaaGreatDoorProg
namespace Go.Proofs
open Go.Shelf
def Tryz.R:Go.Shelf.Ren:=⟨fun|103=>85|109=>96|110=>64|119=>195|120=>220|129=>226|137=>57|138=>162|143=>131|144=>94|151=>154|152=>174|154=>127|155=>90|157=>19|160=>155|161=>86|165=>163|166=>164|169=>165|171=>135|172=>129|195=>182|197=>153|199=>62|205=>181|206=>151|210=>117|217=>93|218=>183|219=>167|224=>188|225=>187|227=>119|228=>152|229=>61|231=>118|232=>175|233=>120|234=>176|235=>121|236=>177|240=>184|241=>185|243=>169|244=>166|245=>126|246=>191|247=>186|260=>173|261=>95|264=>245|266=>130|267=>189|271=>196|276=>210|277=>211|279=>158|280=>159|281=>160|282=>161|283=>214|284=>215|285=>216|286=>217|287=>212|311=>132|312=>133|314=>213|316=>180|317=>237|318=>230|319=>238|320=>239|321=>224|322=>225|337=>249|338=>250|n=>n,fun|0=>0|2=>2|3=>3|4=>4|5=>5|9=>9|20=>20|21=>21|24=>152|31=>33|37=>165|40=>125|46=>228|49=>208|51=>171|53=>73|70=>235|72=>237|75=>160|76=>201|80=>184|85=>255|105=>225|116=>190|117=>191|119=>123|124=>194|127=>254|138=>263|139=>264|141=>173|143=>289|145=>291|146=>297|152=>168|154=>170|164=>292|167=>231|168=>232|171=>299|173=>302|175=>295|193=>204|194=>205|196=>207|198=>210|201=>213|210=>251|212=>322|213=>323|226=>239|227=>240|232=>341|233=>342|n=>n,fun|0=>0|1=>3|3=>6|4=>7|6=>1|15=>4|16=>5|17=>14|18=>17|19=>18|n=>n⟩
theorem Tryz.la{p:Prop}(h:p:=by first|kernel_rfl|(intros;kernel_rfl)|decide|exact fun w h=>Go.Proofs.cell_of_shapedOpen_int (zero:=#[.int .i64 0]) (t:=3) h (of_decide_eq_true (by kernel_rfl)) (by kernel_rfl) rfl (by kernel_rfl) (by kernel_rfl) Tryz.underlying3):p:=h
theorem Tryz.lb{p:Prop}(h:p:=by constructor<;>exact Tryz.la):p:=h
theorem Tryz.lc{p:Prop}(h:p:=by constructor<;>first|exact Tryz.la|exact Tryz.lb):p:=h
theorem Tryz.lay{p:Prop}(h:p:=by constructor<;>first|exact Tryz.la|exact Tryz.lb|exact Tryz.lc):p:=h
theorem Tryz.lays161:Go.Proofs.Lays.n161 Tryz.prog Tryz.R:=Tryz.lay
open Go.RowKit in
theorem Tryz.strings_TrimLeft_one(s:ByteArray)(c:UInt8)(a:c.toNat<128)(w:World):
 Calls Tryz.prog 86 #[.string s,.string ⟨#[c]⟩] w fun e b=>e=.returned (.string ⟨(Lib.trimLeftB s.data.toList c).toArray⟩)/\b=w:=Any.strings_TrimLeft_one Tryz.lays161 s c a w
theorem Tryz.lays160:Go.Proofs.Lays.n160 Tryz.prog Tryz.R:=Tryz.lay
theorem Tryz.lays137:Go.Proofs.Lays.n137 Tryz.prog Tryz.R:=Tryz.lay
open Go.RowKit in
theorem Tryz.strings_IndexByte(s:ByteArray)(c:Int)(w:World):
 Calls Tryz.prog 57 #[.string s,.int .u8 c] w fun e a=>e=.returned (.int .i64 (Lib.indexByte s.data.toList c.toNat.toUInt8))/\a=w:=Any.strings_IndexByte Tryz.lays137 s c w
theorem Tryz.lays103:Go.Proofs.Lays.n103 Tryz.prog Tryz.R:=Tryz.lay
open Go.RowKit in
theorem Tryz.strings_CutPrefix(s p:ByteArray)(w:World):
 Calls Tryz.prog 85 #[.string s,.string p] w fun e a=>e=.returned (.tuple #[.string ⟨(Lib.trimPrefix s.data.toList p.data.toList).toArray⟩,.bool (Lib.hasPrefix s.data.toList p.data.toList)])/\a=w:=Any.strings_CutPrefix Tryz.lays103 s p w
theorem Tryz.lays172:Go.Proofs.Lays.n172 Tryz.prog Tryz.R:=Tryz.lay
open Go.RowKit in
theorem Tryz.strconv_Atoi(s:ByteArray)(n:Int)(a:s.size<=18)(h:Lib.atoi s.data.toList=some n)(w:World):
 Calls Tryz.prog 129 #[.string s] w fun e b=>e=.returned (.tuple #[.int .i64 n,.nilIface])/\∃ t,b=Lib.bytesWorld w 5 t:=Any.strconv_Atoi Tryz.lays172 s n a h w
theorem Tryz.lays129:Go.Proofs.Lays.n129 Tryz.prog Tryz.R:=Tryz.lay
theorem Tryz.bits_Len64(x:Int)(w:World)(a:0<=x)(b:x<=18446744073709551615):
 Calls Tryz.prog 226 #[.int .u64 x] w fun e c=>e=.returned (.int .i64 (Lib.bitLen x.toNat))/\c=w:=Any.bits_Len64 Tryz.lays129 x w a b
theorem Tryz.lays318:Go.Proofs.Lays.n318 Tryz.prog Tryz.R:=Tryz.lay
open Go.Lib in
theorem Tryz.internal_strconv_bool2_int(b:Bool)(w:World):
 Calls Tryz.prog 230 #[.bool b] w fun e a=>e=.returned (.int .i64 (if b then 1 else 0))/\a=w:=Any.internal_strconv_bool2_int Tryz.lays318 b w
open Go.RowKit Go.Sort Go.Lib in
theorem Tryz.laysM171:Go.Proofs.LaysM.n171 Tryz.prog Tryz.R:=Tryz.lay
open Go.RowKit Go.Sort Go.Lib in
theorem Tryz.strconv_Itoa(n:Int)(b:-9223372036854775808<=n)(c:n<=9223372036854775807)(w:World)(a:Lib.TabIs Tryz.prog w "internal/strconv.uint64pow10" .u64 Lib.pow10Tab):
 Calls Tryz.prog 135 #[.int .i64 n] w fun e f=>e=.returned (.string ⟨(Lib.itoa n).toArray⟩)/\∃ k d,f=grow (w.drewN k) d:=Any.strconv_Itoa Tryz.laysM171 n b c w a
open Go.RowKit Go.Sort Go.Lib in
theorem Tryz.laysC245:Go.Proofs.LaysC.n245 Tryz.prog Tryz.R:=Tryz.lay
open Go.RowKit in
theorem Tryz.strconv_toError_syntax(f s:ByteArray)(a b:Int)(c:Value)(w:World)(d:s.size<=281474976710656)(i:w.cell? ⟨4,0,none⟩=some c)(g:c=.nilIface\/∃ k j,c=.iface k j):
 Calls Tryz.prog 126 #[.string f,.string s,.int .i64 a,.int .i64 b,.iface 231 (.int .i64 2)] w fun e h=>∃ N,e=.returned (.iface 232 (.pointer (some ⟨N,0,none⟩)))/\w.heap.size<=N/\h.heap[N]?=some (.cells #[.string f,.string s,c] 251 (0,0))/\Below w.heap.size w h:=Any.strconv_toError_syntax Tryz.laysC245 f s a b c w d i g
open Go.RowKit in
theorem Tryz.strconv_toError_range(f s:ByteArray)(a b:Int)(c:Value)(w:World)(d:s.size<=281474976710656)(i:w.cell? ⟨5,0,none⟩=some c)(g:c=.nilIface\/∃ k j,c=.iface k j):
 Calls Tryz.prog 126 #[.string f,.string s,.int .i64 a,.int .i64 b,.iface 231 (.int .i64 1)] w fun e h=>∃ N,e=.returned (.iface 232 (.pointer (some ⟨N,0,none⟩)))/\w.heap.size<=N/\h.heap[N]?=some (.cells #[.string f,.string s,c] 251 (0,0))/\Below w.heap.size w h:=Any.strconv_toError_range Tryz.laysC245 f s a b c w d i g
open Go.RowKit Go.Lib in
theorem Tryz.lays144:Go.Proofs.Lays.n144 Tryz.prog Tryz.R:=Tryz.lay
open Go.RowKit Go.Lib in
theorem Tryz.strings_Contains_one(s:ByteArray)(c:UInt8)(w:World):
 Calls Tryz.prog 94 #[.string s,.string ⟨#[c]⟩] w fun e a=>e=.returned (.bool (decide (0<=Lib.indexByte s.data.toList c)))/\a=w:=Any.strings_Contains_one Tryz.lays144 s c w
open Go.RowKit Go.Lib in
theorem Tryz.strings_Contains(s a:ByteArray)(m:Int)(w:World)(c:s.size<4294967281)(b:w.cell? ⟨3,0,none⟩=some (.int .i64 m)):
 Calls Tryz.prog 94 #[.string s,.string a] w fun e d=>e=.returned (.bool (Lib.contains s.data.toList a.data.toList))/\d=w:=Any.strings_Contains Tryz.lays144 s a m w c b
open Go.RowKit Go.Lib in
theorem Tryz.laysM219:Go.Proofs.LaysM.n219 Tryz.prog Tryz.R:=Tryz.lay
open Go.RowKit Go.Lib in
theorem Tryz.lays157:Go.Proofs.Lays.n157 Tryz.prog Tryz.R:=Tryz.lay
open Go.RowKit Go.Lib in
theorem Tryz.strings_Fields(s:ByteArray)(w:World)(d:s.size<4294967281)(a:∀ (j:Nat) b,s.data.toList[j]?=some b->b.toNat<128)(c:Lib.TabIs Tryz.prog w "strings.asciiSpace" .u8 Lib.asciiSpaceTab):
 Calls Tryz.prog 19 #[.string s] w fun e f=>
  e=.returned (.slice (some ⟨w.heap.size,0,none⟩) (Lib.fields s.data.toList).length (Lib.fields s.data.toList).length)/\f=w.alloc (.cells ((Lib.fields s.data.toList).map fun l=>Value.string ⟨l.toArray⟩).toArray 9):=Any.strings_Fields Tryz.lays157 (by kernel_rfl) (by kernel_rfl) s w d a c
open Go.RowKit Go.Lib in
theorem Tryz.lays155:Go.Proofs.Lays.n155 Tryz.prog Tryz.R:=Tryz.lay
theorem Tryz.Builder_Extra_155:Builder.Extra Tryz.prog Tryz.R:=Tryz.lay
open Go.RowKit Go.Lib in
theorem Tryz.strings_ReplaceAll(s a b:ByteArray)(m:Int)(w:World)(g:s.size<4294967281)(f:w.cell? ⟨3,0,none⟩=some (.int .i64 m))(d:1<=a.size)(c:s.size+Lib.countB s a*b.size<=140737488355328):
 Calls Tryz.prog 90 #[.string s,.string a,.string b] w fun e h=>
  e=.returned (.string ⟨(Lib.replaceAll s.data.toList a.data.toList b.data.toList).toArray⟩)/\Below w.heap.size w h:=Any.strings_ReplaceAll Tryz.lays155 Tryz.Builder_Extra_155 s a b m w g f d c
open Go.RowKit Go.Lib in
theorem Tryz.lays264:Go.Proofs.Lays.n264 Tryz.prog Tryz.R:=Tryz.lay
open Go.RowKit Go.Lib in
theorem Tryz.bits_Mul64(x y:Nat)(a:x<18446744073709551616)(b:y<18446744073709551616)(w:World):
 Calls Tryz.prog 245 #[.int .u64 x,.int .u64 y] w fun e c=>e=.returned (.tuple #[.int .u64 ((x*y/18446744073709551616:Nat):Int),.int .u64 ((x*y%18446744073709551616:Nat):Int)])/\c=w:=Any.bits_Mul64 Tryz.lays264 x y a b w
open Go.RowKit Go.Lib in
theorem Tryz.lays110:Go.Proofs.Lays.n110 Tryz.prog Tryz.R:=Tryz.lay
open Go.Lib in
theorem Tryz.slices_Contains_string(b a n c:Nat)(f:List ByteArray)(x:ByteArray)(w:World)(h:n<=f.length)(d:n<=9223372036854775807)(g:∀ j,j<f.length->w.cell? ⟨b,a+j,none⟩=some (.string (f.getD j ByteArray.empty))):
 Calls Tryz.prog 64 #[.slice (some ⟨b,a,none⟩) n c,.string x] w fun e i=>e=.returned (.bool (Lib.containsS (f.take n) x))/\i=w:=Any.slices_Contains_string Tryz.lays110 b a n c f x w h d g
end Go.Proofs
