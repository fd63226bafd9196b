/-
  strings.Trim of the shape "abad", all of whose letters are of the cutset: the empty text.
  Conditions: none.
-/
import Derived.Test.YtpaekffehfdmgaaGreatDoorProg
import Derived.WalkKit
import Derived.Shelf.Strings.SlTrimAscii
import Derived.Test.YtpaekffehfdmgaaGreatDoorZB2
set_option linter.unusedVariables false
set_option linter.unusedSimpArgs false
namespace Go.Proofs
open Go.Shelf
set_option maxRecDepth 100000
def Tryz.lays160_ren:Go.Shelf.Ren:=⟨fun | 160=>77 | 232=>103 | 231=>102 | 227=>104 | 234=>106 | 233=>105 | 236=>108 | 235=>107 | 228=>133 | 271=>136 | 151=>135 | 197=>134 | 120=>149 | 152=>148 | 260=>147 | 137=>153 | 119=>154 | 224=>155 | 225=>156 | 217=>157 | 266=>158 | n=>n,fun | 9=>9 | 4=>4 | 3=>3 | 5=>5 | 117=>187 | 116=>186 | 0=>0 | 124=>190 | 21=>21 | 105=>216 | 46=>126 | 119=>233 | 139=>236 | 138=>235 | n=>n,fun | 3=>0 | 4=>1 | n=>n⟩
theorem Tryz.lays160:Go.Proofs.Lays.n160 Tryz.prog Tryz.lays160_ren:={
 mixed:=by kernel_rfl
 f119:=Tryz.func154.trans (congrArg some (by kernel_rfl))
 f120:=Tryz.func149.trans (congrArg some (by kernel_rfl))
 f137:=Tryz.func153.trans (congrArg some (by kernel_rfl))
 f151:=Tryz.func135.trans (congrArg some (by kernel_rfl))
 f152:=Tryz.func148.trans (congrArg some (by kernel_rfl))
 f160:=Tryz.func77.trans (congrArg some (by kernel_rfl))
 f197:=Tryz.func134.trans (congrArg some (by kernel_rfl))
 f217:=Tryz.func157.trans (congrArg some (by kernel_rfl))
 f224:=Tryz.func155.trans (congrArg some (by kernel_rfl))
 f225:=Tryz.func156.trans (congrArg some (by kernel_rfl))
 f227:=Tryz.func104.trans (congrArg some (by kernel_rfl))
 f228:=Tryz.func133.trans (congrArg some (by kernel_rfl))
 f231:=Tryz.func102.trans (congrArg some (by kernel_rfl))
 f232:=Tryz.func103.trans (congrArg some (by kernel_rfl))
 f233:=Tryz.func105.trans (congrArg some (by kernel_rfl))
 f234:=Tryz.func106.trans (congrArg some (by kernel_rfl))
 f235:=Tryz.func107.trans (congrArg some (by kernel_rfl))
 f236:=Tryz.func108.trans (congrArg some (by kernel_rfl))
 f260:=Tryz.func147.trans (congrArg some (by kernel_rfl))
 f266:=Tryz.func158.trans (congrArg some (by kernel_rfl))
 f271:=Tryz.func136.trans (congrArg some (by kernel_rfl))
 t0:=Tryz.underlying0
 a0:=Tryz.isAgg0
 z0:=Tryz.sizeOf0
 v0:=Tryz.zeroValue0
 t3:=Tryz.underlying3
 a3:=Tryz.isAgg3
 z3:=Tryz.sizeOf3
 v3:=Tryz.zeroValue3
 t4:=Tryz.underlying4
 a4:=Tryz.isAgg4
 z4:=Tryz.sizeOf4
 v4:=Tryz.zeroValue4
 t5:=Tryz.underlying5
 a5:=Tryz.isAgg5
 z5:=Tryz.sizeOf5
 v5:=Tryz.zeroValue5
 t9:=Tryz.underlying9
 a9:=Tryz.isAgg9
 z9:=Tryz.sizeOf9
 v9:=Tryz.zeroValue9
 t21:=Tryz.underlying21
 a21:=Tryz.isAgg21
 z21:=Tryz.sizeOf21
 v21:=Tryz.zeroValue21
 t46:=Tryz.underlying126
 a46:=Tryz.isAgg126
 z46:=Tryz.sizeOf126
 v46:=Tryz.zeroValue126
 t105:=Tryz.underlying216
 a105:=Tryz.isAgg216
 z105:=Tryz.sizeOf216
 v105:=Tryz.zeroValue216
 t116:=Tryz.underlying186
 a116:=Tryz.isAgg186
 z116:=Tryz.sizeOf186
 t117:=Tryz.underlying187
 a117:=Tryz.isAgg187
 z117:=Tryz.sizeOf187
 v117:=Tryz.zeroValue187
 t119:=Tryz.underlying233
 a119:=Tryz.isAgg233
 z119:=Tryz.sizeOf233
 t124:=Tryz.underlying190
 a124:=Tryz.isAgg190
 z124:=Tryz.sizeOf190
 v124:=Tryz.zeroValue190
 t138:=Tryz.underlying235
 a138:=Tryz.isAgg235
 z138:=Tryz.sizeOf235
 v138:=Tryz.zeroValue235
 t139:=Tryz.underlying236
 a139:=Tryz.isAgg236
 z139:=Tryz.sizeOf236
 v139:=Tryz.zeroValue236
 g3:=by kernel_rfl
 g4:=by kernel_rfl }
end Go.Proofs
namespace Go.Ws
open Go.RowKit Go.Shelf Go.Proofs
theorem trim_tri:Tri Proofs.Tryz.prog 77 [(.str (ByteArray.mk #[97,98,97,100])),(.str (ByteArray.mk #[97,98,99,100,116]))] [] (.str (ByteArray.mk #[])) []:=by
 refine⟨enters_of Proofs.Tryz.func77 (by kernel_rfl) rfl,by simp,?_⟩
 intro σ π w cargs R hv
 obtain⟨u,hu,hvu⟩:=hv.at_ (i:=0) rfl
 obtain⟨u2,hu2,hvu2⟩:=hv.at_ (i:=1) rfl
 cases hvu
 cases hvu2
 have hsz:=hv.1
 obtain rfl:cargs = #[.string (ByteArray.mk #[97,98,97,100]),.string (ByteArray.mk #[97,98,99,100,116])]:=by
  apply Array.ext
  · simpa using hsz
  · intro i h1 h2
    have h3:i=0∨i=1:=by simp at h2;omega
    rcases h3 with rfl | rfl
    · rw[Array.getElem?_eq_some_iff] at hu
      obtain⟨_,hu⟩:=hu
      simpa using hu
    · rw[Array.getElem?_eq_some_iff] at hu2
      obtain⟨_,hu2⟩:=hu2
      simpa using hu2
 have hcon:=Any.strings_Trim_laid Tryz.lays160 (by kernel_rfl) (ByteArray.mk #[97,98,97,100]) (ByteArray.mk #[97,98,99,100,116]) w (by decide) (by decide) (ascii_of_all (by decide))
 refine Calls.mono hcon ?_
 rintro e w' ⟨rfl,hb⟩
 exact⟨_,σ,π,rfl,.str _,pK R hb⟩
theorem aGY:Tri Proofs.Tryz.prog 77 [(.str (ByteArray.mk #[97,99,97])),(.str (ByteArray.mk #[97,98,99,100,116]))] [] (.str (ByteArray.mk #[])) []:=by
 refine⟨enters_of Proofs.Tryz.func77 (by kernel_rfl) rfl,by simp,?_⟩
 intro σ π w cargs R hv
 obtain⟨u,hu,hvu⟩:=hv.at_ (i:=0) rfl
 obtain⟨u2,hu2,hvu2⟩:=hv.at_ (i:=1) rfl
 cases hvu
 cases hvu2
 have hsz:=hv.1
 obtain rfl:cargs = #[.string (ByteArray.mk #[97,99,97]),.string (ByteArray.mk #[97,98,99,100,116])]:=by
  apply Array.ext
  · simpa using hsz
  · intro i h1 h2
    have h3:i=0∨i=1:=by simp at h2;omega
    rcases h3 with rfl | rfl
    · rw[Array.getElem?_eq_some_iff] at hu
      obtain⟨_,hu⟩:=hu
      simpa using hu
    · rw[Array.getElem?_eq_some_iff] at hu2
      obtain⟨_,hu2⟩:=hu2
      simpa using hu2
 have hcon:=Any.strings_Trim_laid Tryz.lays160 (by kernel_rfl) (ByteArray.mk #[97,99,97]) (ByteArray.mk #[97,98,99,100,116]) w (by decide) (by decide) (ascii_of_all (by decide))
 refine Calls.mono hcon ?_
 rintro e w' ⟨rfl,hb⟩
 exact⟨_,σ,π,rfl,.str _,pK R hb⟩
end Go.Ws
