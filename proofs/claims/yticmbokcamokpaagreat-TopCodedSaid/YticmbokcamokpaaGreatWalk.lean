/- Walks of functions of the library (texts of the kit's shelf). -/
import Derived.Test.YticmbokcamokpaaGreatChecked
import Derived.Lib.Strings
import Derived.Lib.Slices
import Derived.Lib.Small
import Derived.Lib.Walk
import Derived.Lib.BitFns
import Derived.Lib.Bytes
import Derived.Laws.BytesArg
namespace Go.Proofs
set_option maxRecDepth 100000 in
theorem C93 (x:Int) (w:World) (h0:0<=x) (h1:x<=18446744073709551615):
  Calls Tryz.prog 343 #[.int .u64 x] w fun e w' =>e= .returned (.int .i64 (Lib.bitLen x.toNat))/\w' =w:=by
 go_enter Tryz.func343,Tryz.ntmps343
 go_wp2
 all_goals (go_ret;refine ⟨congrArg Ending.returned (congrArg (Value.int IntKind.i64) ?_),rfl⟩)
 all_goals first
  |(rw [Lib.len8_of (x/4294967296/65536/256%256) (by omega) (by omega)]
    have e:(x/4294967296/65536/256%256).toNat=x.toNat/72057594037927936:=by omega
    have l:=Lib.bitLen_le8' (x/4294967296/65536/256%256) (by omega) (by omega)
    have s:=Lib.bitLen_shift56 x.toNat (by omega) (by omega)
    rw [e] at l⊢
    omega)
  |(rw [Lib.len8_of (x/4294967296/65536%256) (by omega) (by omega)]
    have e:(x/4294967296/65536%256).toNat=x.toNat/281474976710656:=by omega
    have l:=Lib.bitLen_le8' (x/4294967296/65536%256) (by omega) (by omega)
    have s:=Lib.bitLen_shift48 x.toNat (by omega) (by omega)
    rw [e] at l⊢
    omega)
  |(rw [Lib.len8_of (x/4294967296/256%256) (by omega) (by omega)]
    have e:(x/4294967296/256%256).toNat=x.toNat/1099511627776:=by omega
    have l:=Lib.bitLen_le8' (x/4294967296/256%256) (by omega) (by omega)
    have s:=Lib.bitLen_shift40 x.toNat (by omega) (by omega)
    rw [e] at l⊢
    omega)
  |(rw [Lib.len8_of (x/4294967296%256) (by omega) (by omega)]
    have e:(x/4294967296%256).toNat=x.toNat/4294967296:=by omega
    have l:=Lib.bitLen_le8' (x/4294967296%256) (by omega) (by omega)
    have s:=Lib.bitLen_shift32 x.toNat (by omega) (by omega)
    rw [e] at l⊢
    omega)
  |(rw [Lib.len8_of (x/65536/256%256) (by omega) (by omega)]
    have e:(x/65536/256%256).toNat=x.toNat/16777216:=by omega
    have l:=Lib.bitLen_le8' (x/65536/256%256) (by omega) (by omega)
    have s:=Lib.bitLen_shift24 x.toNat (by omega) (by omega)
    rw [e] at l⊢
    omega)
  |(rw [Lib.len8_of (x/65536%256) (by omega) (by omega)]
    have e:(x/65536%256).toNat=x.toNat/65536:=by omega
    have l:=Lib.bitLen_le8' (x/65536%256) (by omega) (by omega)
    have s:=Lib.bitLen_shift16 x.toNat (by omega) (by omega)
    rw [e] at l⊢
    omega)
  |(rw [Lib.len8_of (x/256%256) (by omega) (by omega)]
    have e:(x/256%256).toNat=x.toNat/256:=by omega
    have l:=Lib.bitLen_le8' (x/256%256) (by omega) (by omega)
    have s:=Lib.bitLen_shift8 x.toNat (by omega) (by omega)
    rw [e] at l⊢
    omega)
  |(rw [Lib.len8_of (x%256) (by omega) (by omega)]
    have e:(x%256).toNat=x.toNat:=by omega
    have l:=Lib.bitLen_le8' (x%256) (by omega) (by omega)
    rw [e] at l⊢
    omega)
set_option maxHeartbeats 1000000 in
theorem C3g (v1 v2:Value) (xs ys:List Int) (w:World)
  (h1:(convert 28 9 v1).run Tryz.prog w= .ok (.string (strOfNums xs)) w) (h2:(convert 28 9 v2).run Tryz.prog w= .ok (.string (strOfNums ys)) w):
  Calls Tryz.prog 25 #[v1,v2] w fun e w' =>e= .returned (.bool (Lib.bytesOf xs==Lib.bytesOf ys))/\w' =w:=by
 rw [<-Lib.strOfNums_toList,<-Lib.strOfNums_toList]
 go_enter Tryz.func25,Tryz.ntmps25
 go_wp2
 go_ret
 exact ⟨rfl,rfl⟩
end Go.Proofs
