/- The closed facts of the row. -/
import Derived.Test.YtdlaladdeelegaaGreatRows
import Derived.ProofKit
import Derived.Rings
import Derived.JoinedOf
set_option linter.all false
noncomputable section
namespace Go.Proofs.YtdlaladdeelegaaGreat
section
open Go
section
theorem ZJ {a b:Bool} (h:a=true) (k:b=true):(a && b)=true:=by rw[h,k];rfl
theorem zWD:(Rows.congruenceExplainsRow.wf (OpenSpec.ofChange Rows.congruenceExplainsSpec))=true:=by kernel_rfl
theorem zNB:(laidOutB Tryz.prog)=true:=by kernel_rfl
theorem zWO:(mapsRowed Tryz.prog)=true:=by kernel_rfl
theorem zWZ:(Tryz.f4.params.all (Tryz.prog.readableRec ·))=true:=by kernel_rfl
theorem zW2:(namedTie Tryz.prog Rows.congruenceExplainsRow.named Rows.congruenceExplainsSpec.vars)=true:=by kernel_rfl
theorem zW3:((Rows.congruenceExplainsRow.stops==[]))=true:=by kernel_rfl
theorem zW4:((Tryz.prog.stops==[]))=true:=by kernel_rfl
theorem zW5:((Rows.congruenceExplainsRow.knobs==[]))=true:=by kernel_rfl
theorem zW6:((Tryz.prog.stopKnobs==[]))=true:=by kernel_rfl
theorem zW7:((Rows.congruenceExplainsRow.inPlace==Tryz.prog.inPlace 4))=true:=by kernel_rfl
theorem zWE:((Rows.congruenceExplainsRow.unfollowed==Tryz.prog.unfollowed 4))=true:=by kernel_rfl
theorem zWF:((Rows.congruenceExplainsRow.recurses==Tryz.prog.recurses 4))=true:=by
 rw[Program.recurses_iff,show Tryz.prog.unfollowed 4=true by kernel_rfl];rfl
theorem zWG:((Rows.congruenceExplainsRow.named==Tryz.prog.varsNamed 4))=true:=by kernel_rfl
theorem zWH:((Rows.congruenceExplainsRow.maps==(Tryz.f4.params.toList++Rows.congruenceExplainsSpec.plain.varTypes Tryz.prog).any (Tryz.prog.mapsRec ·)))=true:=by kernel_rfl
theorem zWI:((Rows.congruenceExplainsRow.ifaces==(Tryz.f4.params.toList++Rows.congruenceExplainsSpec.plain.varTypes Tryz.prog).any (Tryz.prog.ifacesRec ·)))=true:=by kernel_rfl
theorem zWJ:((Rows.congruenceExplainsRow.mapsOut==Tryz.prog.mapsAmong Tryz.f4.resultTypes.toList))=true:=by kernel_rfl
theorem zWK:((Rows.congruenceExplainsRow.loops==(Tryz.f4.params.toList++Rows.congruenceExplainsSpec.plain.varTypes Tryz.prog).any (Tryz.prog.loopsFrom ·)))=true:=by kernel_rfl
theorem zWL:((Rows.congruenceExplainsRow.wideKeys==(Tryz.f4.params.toList++Rows.congruenceExplainsSpec.plain.varTypes Tryz.prog++Tryz.f4.resultTypes.toList).any (Tryz.prog.wideKeysFrom ·)))=true:=by kernel_rfl
theorem zWM:(Rows.congruenceExplainsSpec.vars.all (Tryz.prog.varReadable ·))=true:=by kernel_rfl
theorem zWN:(Tryz.f4.resultTypes.all (fun t=> Tryz.prog.readableRec t && decide (t < Tryz.prog.types.size)))=true:=by kernel_rfl
theorem zWP:((Rows.congruenceExplainsRow.ifacesOut==Tryz.f4.resultTypes.toList.any (Tryz.prog.ifacesRec ·)))=true:=by kernel_rfl
theorem zWQ:((Rows.congruenceExplainsRow.loopsOut==Tryz.f4.resultTypes.toList.any (Tryz.prog.loopsFrom ·)))=true:=by kernel_rfl
theorem zWR:((Rows.congruenceExplainsRow.plainKeys==Tryz.prog.plainKeys))=true:=by kernel_rfl
theorem zWS:(Rows.congruenceExplainsRow.shortTexts.isNone)=true:=by kernel_rfl
theorem zWT:(Tryz.prog.stopsHeard)=true:=by kernel_rfl
theorem zWU:(Tryz.prog.mayEnter)=true:=by kernel_rfl
theorem zWV:((Rows.congruenceExplainsRow.lifted==Tryz.prog.liftsFinal))=true:=by kernel_rfl
theorem zWW:((Tryz.prog.make==some Rows.congruenceExplainsRow.make))=true:=by kernel_rfl
theorem zWX:((Rows.congruenceExplainsRow.kinds==(if Rows.congruenceExplainsRow.domain.isEmpty then [] else Tryz.f4.params.toList.map fun t=> match Tryz.prog.underlying t with|some (.int k)=> some k|_=> none)))=true:=by kernel_rfl
theorem zWY:((Rows.congruenceExplainsRow.pinned==Rows.congruenceExplainsRow.pinnedBy))=true:=by kernel_rfl
theorem zW0:((Rows.congruenceExplainsRow.veiled==(Tryz.f4.params.toList++Rows.congruenceExplainsSpec.plain.varTypes Tryz.prog++Tryz.f4.resultTypes.toList).any (Tryz.prog.veiledRec ·)))=true:=by kernel_rfl
theorem zW1:(Rows.congruenceExplainsRow.veiledFits Tryz.prog Tryz.f4.params.toList (Tryz.f4.params.toList++Rows.congruenceExplainsSpec.plain.varTypes Tryz.prog++Tryz.f4.resultTypes.toList))=true:=by kernel_rfl
end
end
end Go.Proofs.YtdlaladdeelegaaGreat
set_option maxRecDepth 100000
namespace Go.Proofs.YtdlaladdeelegaaGreat
open Go
theorem zW8:joinedFacts Tryz.prog 4 Tryz.f4 Rows.congruenceExplainsSpec Rows.congruenceExplainsRow=true:=by
 unfold joinedFacts
 exact ZJ (ZJ (ZJ (ZJ (ZJ (ZJ (ZJ (ZJ (ZJ (ZJ (ZJ (ZJ (ZJ (ZJ (ZJ (ZJ (ZJ (ZJ (ZJ (ZJ (ZJ (ZJ (ZJ (ZJ (ZJ (ZJ (ZJ (ZJ (ZJ (ZJ (ZJ (zWD) zNB) zWO) zWZ) zW2) zW3) zW4) zW5) zW6) zW7) zWE) zWF) zWG) zWH) zWI) zWJ) zWK) zWL) zWM) zWN) zWP) zWQ) zWR) zWS) zWT) zWU) zWV) zWW) zWX) zWY) zW0) zW1
end Go.Proofs.YtdlaladdeelegaaGreat
end
