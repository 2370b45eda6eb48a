/- The closed facts of the row. -/
import Derived.Test.YtdlaladdeelegaaGreatRows
import Derived.ProofKit
import Derived.Rings
import Derived.JoinedOf
set_option linter.all false
namespace Go.Proofs.YtdlaladdeelegaaGreat
open Go
theorem ZJ {a b:Bool} (h:a=true) (k:b=true):(a && b)=true:=by rw [h,k];rfl
theorem zWD:(Rows.congruenceClosesRow.wf (OpenSpec.ofChange Rows.congruenceClosesSpec))=true:=by kernel_rfl
theorem zNB:(laidOutB Tryz.prog)=true:=by kernel_rfl
theorem zWO:(mapsRowed Tryz.prog)=true:=by kernel_rfl
theorem zWZ:(Tryz.f3.params.all (Tryz.prog.readableRec ·))=true:=by kernel_rfl
theorem zW2:(namedTie Tryz.prog Rows.congruenceClosesRow.named Rows.congruenceClosesSpec.vars)=true:=by kernel_rfl
theorem zW3:((Rows.congruenceClosesRow.stops==[]))=true:=by kernel_rfl
theorem zW4:((Tryz.prog.stops==[]))=true:=by kernel_rfl
theorem zW5:((Rows.congruenceClosesRow.knobs==[]))=true:=by kernel_rfl
theorem zW6:((Tryz.prog.stopKnobs==[]))=true:=by kernel_rfl
theorem zW7:((Rows.congruenceClosesRow.inPlace==Tryz.prog.inPlace 3))=true:=by kernel_rfl
theorem zWE:((Rows.congruenceClosesRow.unfollowed==Tryz.prog.unfollowed 3))=true:=by kernel_rfl
theorem zWF:((Rows.congruenceClosesRow.recurses==Tryz.prog.recurses 3))=true:=by
 rw [Program.recurses_iff,show Tryz.prog.unfollowed 3=true by kernel_rfl];rfl
theorem zWG:((Rows.congruenceClosesRow.named==Tryz.prog.varsNamed 3))=true:=by kernel_rfl
theorem zWH:((Rows.congruenceClosesRow.maps==(Tryz.f3.params.toList++Rows.congruenceClosesSpec.plain.varTypes Tryz.prog).any (Tryz.prog.mapsRec ·)))=true:=by kernel_rfl
theorem zWI:((Rows.congruenceClosesRow.ifaces==(Tryz.f3.params.toList++Rows.congruenceClosesSpec.plain.varTypes Tryz.prog).any (Tryz.prog.ifacesRec ·)))=true:=by kernel_rfl
theorem zWJ:((Rows.congruenceClosesRow.mapsOut==Tryz.prog.mapsAmong Tryz.f3.resultTypes.toList))=true:=by kernel_rfl
theorem zWK:((Rows.congruenceClosesRow.loops==(Tryz.f3.params.toList++Rows.congruenceClosesSpec.plain.varTypes Tryz.prog).any (Tryz.prog.loopsFrom ·)))=true:=by kernel_rfl
theorem zWL:((Rows.congruenceClosesRow.wideKeys==(Tryz.f3.params.toList++Rows.congruenceClosesSpec.plain.varTypes Tryz.prog++Tryz.f3.resultTypes.toList).any (Tryz.prog.wideKeysFrom ·)))=true:=by kernel_rfl
theorem zWM:(Rows.congruenceClosesSpec.vars.all (Tryz.prog.varReadable ·))=true:=by kernel_rfl
theorem zWN:(Tryz.f3.resultTypes.all (fun t=> Tryz.prog.readableRec t && decide (t < Tryz.prog.types.size)))=true:=by kernel_rfl
theorem zWP:((Rows.congruenceClosesRow.ifacesOut==Tryz.f3.resultTypes.toList.any (Tryz.prog.ifacesRec ·)))=true:=by kernel_rfl
theorem zWQ:((Rows.congruenceClosesRow.loopsOut==Tryz.f3.resultTypes.toList.any (Tryz.prog.loopsFrom ·)))=true:=by kernel_rfl
theorem zWR:((Rows.congruenceClosesRow.plainKeys==Tryz.prog.plainKeys))=true:=by kernel_rfl
theorem zWS:(Rows.congruenceClosesRow.shortTexts.isNone)=true:=by kernel_rfl
theorem zWT:(Tryz.prog.stopsHeard)=true:=by kernel_rfl
theorem zWU:(Tryz.prog.mayEnter)=true:=by kernel_rfl
theorem zWV:((Rows.congruenceClosesRow.lifted==Tryz.prog.liftsFinal))=true:=by kernel_rfl
theorem zWW:((Tryz.prog.make==some Rows.congruenceClosesRow.make))=true:=by kernel_rfl
theorem zWX:((Rows.congruenceClosesRow.kinds==(if Rows.congruenceClosesRow.domain.isEmpty then [] else Tryz.f3.params.toList.map fun t=> match Tryz.prog.underlying t with|some (.int k)=> some k|_=> none)))=true:=by kernel_rfl
theorem zWY:((Rows.congruenceClosesRow.pinned==Rows.congruenceClosesRow.pinnedBy))=true:=by kernel_rfl
theorem zW0:((Rows.congruenceClosesRow.veiled==(Tryz.f3.params.toList++Rows.congruenceClosesSpec.plain.varTypes Tryz.prog++Tryz.f3.resultTypes.toList).any (Tryz.prog.veiledRec ·)))=true:=by kernel_rfl
theorem zW1:(Rows.congruenceClosesRow.veiledFits Tryz.prog Tryz.f3.params.toList (Tryz.f3.params.toList++Rows.congruenceClosesSpec.plain.varTypes Tryz.prog++Tryz.f3.resultTypes.toList))=true:=by kernel_rfl
end Go.Proofs.YtdlaladdeelegaaGreat
set_option maxRecDepth 100000
namespace Go.Proofs.YtdlaladdeelegaaGreat
open Go
theorem zW8:joinedFacts Tryz.prog 3 Tryz.f3 Rows.congruenceClosesSpec Rows.congruenceClosesRow=true:=by
 unfold joinedFacts
 exact ZJ (ZJ (ZJ (ZJ (ZJ (ZJ (ZJ (ZJ (ZJ (ZJ (ZJ (ZJ (ZJ (ZJ (ZJ (ZJ (ZJ (ZJ (ZJ (ZJ (ZJ (ZJ (ZJ (ZJ (ZJ (ZJ (ZJ (ZJ (ZJ (ZJ (ZJ (zWD) zNB) zWO) zWZ) zW2) zW3) zW4) zW5) zW6) zW7) zWE) zWF) zWG) zWH) zWI) zWJ) zWK) zWL) zWM) zWN) zWP) zWQ) zWR) zWS) zWT) zWU) zWV) zWW) zWX) zWY) zW0) zW1
end Go.Proofs.YtdlaladdeelegaaGreat
