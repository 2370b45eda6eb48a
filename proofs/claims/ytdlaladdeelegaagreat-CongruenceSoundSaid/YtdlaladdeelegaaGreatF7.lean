/- The closed facts of the row. -/
import Derived.Test.YtdlaladdeelegaaGreatRows
import Derived.ProofKit
import Derived.Rings
import Derived.JoinedOf
set_option linter.all false
namespace Go.Proofs.YtdlaladdeelegaaGreat
open Go
theorem ZJ {a b:Bool} (h:a=true) (k:b=true):(a && b)=true:=by rw [h,k];rfl
theorem zWD:(Rows.congruenceSoundRow.wf (OpenSpec.ofChange Rows.congruenceSoundSpec))=true:=by kernel_rfl
theorem zNB:(laidOutB Tryz.prog)=true:=by kernel_rfl
theorem zWO:(mapsRowed Tryz.prog)=true:=by kernel_rfl
theorem zWZ:(Tryz.f6.params.all (Tryz.prog.readableRec ·))=true:=by kernel_rfl
theorem zW2:(namedTie Tryz.prog Rows.congruenceSoundRow.named Rows.congruenceSoundSpec.vars)=true:=by kernel_rfl
theorem zW3:((Rows.congruenceSoundRow.stops==[]))=true:=by kernel_rfl
theorem zW4:((Tryz.prog.stops==[]))=true:=by kernel_rfl
theorem zW5:((Rows.congruenceSoundRow.knobs==[]))=true:=by kernel_rfl
theorem zW6:((Tryz.prog.stopKnobs==[]))=true:=by kernel_rfl
theorem zW7:((Rows.congruenceSoundRow.inPlace==Tryz.prog.inPlace 6))=true:=by kernel_rfl
theorem zWE:((Rows.congruenceSoundRow.unfollowed==Tryz.prog.unfollowed 6))=true:=by kernel_rfl
theorem zWF:((Rows.congruenceSoundRow.recurses==Tryz.prog.recurses 6))=true:=by
 rw [Program.recurses_iff,show Tryz.prog.unfollowed 6=true by kernel_rfl];rfl
theorem zWG:((Rows.congruenceSoundRow.named==Tryz.prog.varsNamed 6))=true:=by kernel_rfl
theorem zWH:((Rows.congruenceSoundRow.maps==(Tryz.f6.params.toList++Rows.congruenceSoundSpec.plain.varTypes Tryz.prog).any (Tryz.prog.mapsRec ·)))=true:=by kernel_rfl
theorem zWI:((Rows.congruenceSoundRow.ifaces==(Tryz.f6.params.toList++Rows.congruenceSoundSpec.plain.varTypes Tryz.prog).any (Tryz.prog.ifacesRec ·)))=true:=by kernel_rfl
theorem zWJ:((Rows.congruenceSoundRow.mapsOut==Tryz.prog.mapsAmong Tryz.f6.resultTypes.toList))=true:=by kernel_rfl
theorem zWK:((Rows.congruenceSoundRow.loops==(Tryz.f6.params.toList++Rows.congruenceSoundSpec.plain.varTypes Tryz.prog).any (Tryz.prog.loopsFrom ·)))=true:=by kernel_rfl
theorem zWL:((Rows.congruenceSoundRow.wideKeys==(Tryz.f6.params.toList++Rows.congruenceSoundSpec.plain.varTypes Tryz.prog++Tryz.f6.resultTypes.toList).any (Tryz.prog.wideKeysFrom ·)))=true:=by kernel_rfl
theorem zWM:(Rows.congruenceSoundSpec.vars.all (Tryz.prog.varReadable ·))=true:=by kernel_rfl
theorem zWN:(Tryz.f6.resultTypes.all (fun t=> Tryz.prog.readableRec t && decide (t < Tryz.prog.types.size)))=true:=by kernel_rfl
theorem zWP:((Rows.congruenceSoundRow.ifacesOut==Tryz.f6.resultTypes.toList.any (Tryz.prog.ifacesRec ·)))=true:=by kernel_rfl
theorem zWQ:((Rows.congruenceSoundRow.loopsOut==Tryz.f6.resultTypes.toList.any (Tryz.prog.loopsFrom ·)))=true:=by kernel_rfl
theorem zWR:((Rows.congruenceSoundRow.plainKeys==Tryz.prog.plainKeys))=true:=by kernel_rfl
theorem zWS:(Rows.congruenceSoundRow.shortTexts.isNone)=true:=by kernel_rfl
theorem zWT:(Tryz.prog.stopsHeard)=true:=by kernel_rfl
theorem zWU:(Tryz.prog.mayEnter)=true:=by kernel_rfl
theorem zWV:((Rows.congruenceSoundRow.lifted==Tryz.prog.liftsFinal))=true:=by kernel_rfl
theorem zWW:((Tryz.prog.make==some Rows.congruenceSoundRow.make))=true:=by kernel_rfl
theorem zWX:((Rows.congruenceSoundRow.kinds==(if Rows.congruenceSoundRow.domain.isEmpty then [] else Tryz.f6.params.toList.map fun t=> match Tryz.prog.underlying t with|some (.int k)=> some k|_=> none)))=true:=by kernel_rfl
theorem zWY:((Rows.congruenceSoundRow.pinned==Rows.congruenceSoundRow.pinnedBy))=true:=by kernel_rfl
theorem zW0:((Rows.congruenceSoundRow.veiled==(Tryz.f6.params.toList++Rows.congruenceSoundSpec.plain.varTypes Tryz.prog++Tryz.f6.resultTypes.toList).any (Tryz.prog.veiledRec ·)))=true:=by kernel_rfl
theorem zW1:(Rows.congruenceSoundRow.veiledFits Tryz.prog Tryz.f6.params.toList (Tryz.f6.params.toList++Rows.congruenceSoundSpec.plain.varTypes Tryz.prog++Tryz.f6.resultTypes.toList))=true:=by kernel_rfl
end Go.Proofs.YtdlaladdeelegaaGreat
set_option maxRecDepth 100000
namespace Go.Proofs.YtdlaladdeelegaaGreat
open Go
theorem zW8:joinedFacts Tryz.prog 6 Tryz.f6 Rows.congruenceSoundSpec Rows.congruenceSoundRow=true:=by
 unfold joinedFacts
 exact ZJ (ZJ (ZJ (ZJ (ZJ (ZJ (ZJ (ZJ (ZJ (ZJ (ZJ (ZJ (ZJ (ZJ (ZJ (ZJ (ZJ (ZJ (ZJ (ZJ (ZJ (ZJ (ZJ (ZJ (ZJ (ZJ (ZJ (ZJ (ZJ (ZJ (ZJ (zWD) zNB) zWO) zWZ) zW2) zW3) zW4) zW5) zW6) zW7) zWE) zWF) zWG) zWH) zWI) zWJ) zWK) zWL) zWM) zWN) zWP) zWQ) zWR) zWS) zWT) zWU) zWV) zWW) zWX) zWY) zW0) zW1
end Go.Proofs.YtdlaladdeelegaaGreat
