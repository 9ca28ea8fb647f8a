import Derived.Test.YtagemonojdgbdaaGreatDoorF11
import Derived.Lib.ConvBytes
import Derived.Laws.AppendOwn
import Derived.Maps.RangeWalk
import Derived.Maps.OwnOps
import Derived.Maps.OwnSet
import Derived.DeepKeys4
namespace Go.Proofs.YtagemonojdgbdaaGreatDoor
set_option maxRecDepth 100000
open Go.RowKit
theorem Ct(w:World)(e:TypeId)(s:ByteArray):Below w.heap.size w (Lib.bytesWorld w e s):=
 ⟨rfl,rfl,rfl,by rw[Lib.bytesWorld_size];omega,fun k hk=>Lib.bytesWorld_at_old w e s k hk⟩
theorem LI(w:World)(e:TypeId)(l:List UInt8)(hl:l.length<=maxLen):Rd (Lib.bytesWorld w e ⟨l.toArray⟩) (fun k=>w.heap.size<=k) (.slice (some ⟨w.heap.size,0,none⟩) l.length (grownCap w l.length 0 e)) (l.map B8):=by
 refine⟨_,_,_,rfl,by simp,grownCap_ge _ _ _ _,grownCap_le_maxLen _ _ _ _ hl,fun _=>⟨_,0,rfl,aq _,fun j u hj=>?_⟩⟩;have hjl:j<l.length:=by have:=(b8.1 hj).1;simpa using this
 have:=Lib.bytesWorld_cell w e ⟨l.toArray⟩ j (by simpa[ByteArray.size]using hjl);rw[gn,this];rw[oe]at hj;simp only[List.getD,List.getElem?_eq_getElem hjl,Option.map_some,fj]at hj⊢;rw[<-hj];rfl
theorem Ew(w:World)(l:List UInt8):(convert 9 118 (.string ⟨l.toArray⟩)).run Tryz.prog w=.ok (.slice (some ⟨w.heap.size,0,none⟩) l.length (grownCap w l.length 0 5)) (Lib.bytesWorld w 5 ⟨l.toArray⟩):=by have:=Lib.run_convert_string_bytes (P:=Tryz.prog) w 9 118 5 ⟨l.toArray⟩ Tryz.underlying9 Tryz.underlying118 Tryz.underlying5;simpa[ByteArray.size]using this
section
open Go.RowKit Go.Maps Go.WideShapes
theorem Tryz.LJ:laidOutB Tryz.prog=true:=by kernel_rfl
theorem Tryz.Sc:(176:TypeId)<Tryz.prog.types.size:=of_decide_eq_true (by kernel_rfl)
theorem Tryz.Vx:(match Tryz.prog.underlying 176 with|some (.array _ _)|some (.struct _)=>true|_=>false)=true:=by rw[Tryz.underlying176]
theorem IK:Keyed Tryz.prog 176:=Keyed.of_law (deep_law_laid Tryz.LJ (m:=2) (by omega) Tryz.Sc (by kernel_rfl) Tryz.Vx)
theorem Tryz.zL:Tryz.prog.cellsOf 176=1:=by kernel_rfl
theorem Tryz.LK:Tryz.prog.cellsOf 9=1:=by kernel_rfl
theorem Tryz.Za:Tryz.prog.keyType 176=true:=by kernel_rfl
def Cu(k:List UInt8):Value:=.agg #[.string ⟨k.toArray⟩]
def cL(k:List UInt8):Lit:=.string (keyBytes [.string k])
theorem Cv(w n:Nat):(bytesLE w n).length=w:=by
 induction w generalizing n with
 |zero=>rfl
 |succ w ih=>simp[bytesLE,ih]
theorem uK{a b:List UInt8}(h:cL a=cL b):a=b:=by
 unfold cL keyBytes at h;simp[Lit.keyBytes]at h;have hl:(bytesBE 8 a.length).length=(bytesBE 8 b.length).length:=by simp[bytesBE,Cv]
 exact(List.append_inj h hl).2
theorem yl{k:List UInt8}(h:k.length<=maxLen):keyOf Tryz.prog 176 (Cu k)=some (cL k):=by
 unfold keyOf Cu;rw[Tryz.underlying176];simp only;have hf:(Value.agg #[.string ⟨k.toArray⟩]).formed Tryz.prog 176=true:=by simp[Value.formed,Tryz.underlying176,Tryz.zL]
 have hsz:(⟨k.toArray⟩:ByteArray).size<=maxLen:=by simpa[ByteArray.size]using h
 rw[Tryz.Za,hf];obtain⟨d,hd⟩: ∃d,Tryz.prog.types.size+1=d+1+1:=⟨Tryz.prog.types.size-1,by have h1:(0:Nat)<Tryz.prog.types.size:=Nat.lt_of_le_of_lt (dj _) Tryz.Sc;omega⟩;rw[hd];simp[Program.keyLits,Tryz.underlying176,Tryz.underlying9,Tryz.zL,Tryz.LK,Value.cells,cL,hsz]
theorem oZ{v:Value}{kl:Lit}(h:keyOf Tryz.prog 176 v=some kl): ∃k:List UInt8,v=Cu k/\kl=cL k/\k.length<=maxLen:=by
 unfold keyOf at h;rw[Tryz.underlying176]at h;simp only at h;split at h
 ·rename_i hc;simp only[mT]at hc;obtain⟨d,hd⟩: ∃d,Tryz.prog.types.size+1=d+1+1:=⟨Tryz.prog.types.size-1,by have h1:(0:Nat)<Tryz.prog.types.size:=Nat.lt_of_le_of_lt (dj _) Tryz.Sc;omega⟩;rw[hd]at h
  obtain⟨cs,rfl⟩: ∃cs,v=.agg cs:=by
   have:=hc.2;unfold Value.formed at this;split at this
   ·exact⟨_,rfl⟩
   ·cases this
   ·rw[Tryz.underlying176]at this;cases this
  have hs:cs.size=1:=by have:=hc.2;simpa[Value.formed,Tryz.underlying176,Tryz.zL]using this
  obtain⟨cl⟩:=cs
  match cl,hs with
  |[c0],hs1=>
   simp[Program.keyLits,Tryz.underlying176,Tryz.underlying9,Tryz.zL,Tryz.LK,Value.cells]at h;clear hs1 hc hs;cases c0<;>simp at h;rename_i sb;by_cases hle:sb.size<=maxLen
   ·rw[fi hle]at h;simp at h;exact⟨sb.data.toList,rfl,h.symm,by rw[Array.length_toList];exact hle⟩
   ·rw[ff hle]at h;simp at h
 ·cases h
end
end Go.Proofs.YtagemonojdgbdaaGreatDoor
