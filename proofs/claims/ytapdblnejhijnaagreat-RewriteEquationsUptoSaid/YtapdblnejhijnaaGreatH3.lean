/- The closed facts of the row. -/
import Derived.Test.YtapdblnejhijnaaGreatRows
import Derived.ProofKit
import Derived.Rings
import Derived.JoinedOf
set_option linter.all false
noncomputable section
namespace Go.Proofs.YtapdblnejhijnaaGreat
section
open Go
section
abbrev sp:ChangeSpec:=(Rows.OpenSpec.upto Rows.rewriteEquationsSpec).bare
theorem ZJ {a b:Bool} (h:a=true) (k:b=true):(a && b)=true:=by rw[h,k];rfl
theorem zWD:(Rows.rewriteEquationsUptoRow.wf (OpenSpec.ofChange sp))=true:=by kernel_rfl
theorem zNB:(laidOutB Tryz.prog)=true:=by kernel_rfl
theorem zWO:(mapsRowed Tryz.prog)=true:=by kernel_rfl
theorem zWZ:(Tryz.f3.params.all (Tryz.prog.readableRec ·))=true:=by kernel_rfl
theorem zW2:(namedTie Tryz.prog Rows.rewriteEquationsUptoRow.named sp.vars)=true:=by kernel_rfl
theorem zW3:((Rows.rewriteEquationsUptoRow.stops==[]))=true:=by kernel_rfl
theorem zW4:((Tryz.prog.stops==[]))=true:=by kernel_rfl
theorem zW5:((Rows.rewriteEquationsUptoRow.knobs==[]))=true:=by kernel_rfl
theorem zW6:((Tryz.prog.stopKnobs==[]))=true:=by kernel_rfl
theorem zW7:((Rows.rewriteEquationsUptoRow.inPlace==Tryz.prog.inPlace 3))=true:=by kernel_rfl
theorem zWE:((Rows.rewriteEquationsUptoRow.unfollowed==Tryz.prog.unfollowed 3))=true:=by kernel_rfl
theorem zWF:((Rows.rewriteEquationsUptoRow.recurses==Tryz.prog.recurses 3))=true:=by
 rw[Program.recurses_iff,show Tryz.prog.unfollowed 3=true by kernel_rfl];rfl
theorem zWG:((Rows.rewriteEquationsUptoRow.named==Tryz.prog.varsNamed 3))=true:=by kernel_rfl
theorem zWH:((Rows.rewriteEquationsUptoRow.maps==(Tryz.f3.params.toList++sp.plain.varTypes Tryz.prog).any (Tryz.prog.mapsRec ·)))=true:=by kernel_rfl
theorem zWI:((Rows.rewriteEquationsUptoRow.ifaces==(Tryz.f3.params.toList++sp.plain.varTypes Tryz.prog).any (Tryz.prog.ifacesRec ·)))=true:=by kernel_rfl
theorem zWJ:((Rows.rewriteEquationsUptoRow.mapsOut==Tryz.prog.mapsAmong Tryz.f3.resultTypes.toList))=true:=by kernel_rfl
theorem zWK:((Rows.rewriteEquationsUptoRow.loops==(Tryz.f3.params.toList++sp.plain.varTypes Tryz.prog).any (Tryz.prog.loopsFrom ·)))=true:=by kernel_rfl
theorem zWL:((Rows.rewriteEquationsUptoRow.wideKeys==(Tryz.f3.params.toList++sp.plain.varTypes Tryz.prog++Tryz.f3.resultTypes.toList).any (Tryz.prog.wideKeysFrom ·)))=true:=by kernel_rfl
theorem zWM:(sp.vars.all (Tryz.prog.varReadable ·))=true:=by kernel_rfl
theorem zWN:(Tryz.f3.resultTypes.all (fun t=> Tryz.prog.readableRec t && decide (t < Tryz.prog.types.size)))=true:=by kernel_rfl
theorem zWP:((Rows.rewriteEquationsUptoRow.ifacesOut==Tryz.f3.resultTypes.toList.any (Tryz.prog.ifacesRec ·)))=true:=by kernel_rfl
theorem zWQ:((Rows.rewriteEquationsUptoRow.loopsOut==Tryz.f3.resultTypes.toList.any (Tryz.prog.loopsFrom ·)))=true:=by kernel_rfl
theorem zWR:((Rows.rewriteEquationsUptoRow.plainKeys==Tryz.prog.plainKeys))=true:=by kernel_rfl
theorem zWS:(Rows.rewriteEquationsUptoRow.shortTexts.isNone)=true:=by kernel_rfl
theorem zWT:(Tryz.prog.stopsHeard)=true:=by kernel_rfl
theorem zWU:(Tryz.prog.mayEnter)=true:=by kernel_rfl
theorem zWV:((Rows.rewriteEquationsUptoRow.lifted==Tryz.prog.liftsFinal))=true:=by kernel_rfl
theorem zWW:((Tryz.prog.make==some Rows.rewriteEquationsUptoRow.make))=true:=by kernel_rfl
theorem zWX:((Rows.rewriteEquationsUptoRow.kinds==(if Rows.rewriteEquationsUptoRow.domain.isEmpty then [] else Tryz.f3.params.toList.map fun t=> match Tryz.prog.underlying t with|some (.int k)=> some k|_=> none)))=true:=by kernel_rfl
theorem zWY:((Rows.rewriteEquationsUptoRow.pinned==Rows.rewriteEquationsUptoRow.pinnedBy))=true:=by kernel_rfl
theorem zW0:((Rows.rewriteEquationsUptoRow.veiled==(Tryz.f3.params.toList++sp.plain.varTypes Tryz.prog++Tryz.f3.resultTypes.toList).any (Tryz.prog.veiledRec ·)))=true:=by kernel_rfl
theorem zW1:(Rows.rewriteEquationsUptoRow.veiledFits Tryz.prog Tryz.f3.params.toList (Tryz.f3.params.toList++sp.plain.varTypes Tryz.prog++Tryz.f3.resultTypes.toList))=true:=by kernel_rfl
end
end
end Go.Proofs.YtapdblnejhijnaaGreat
set_option maxRecDepth 100000
namespace Go.Proofs.YtapdblnejhijnaaGreat
open Go
theorem zW8:joinedFacts Tryz.prog 3 Tryz.f3 sp Rows.rewriteEquationsUptoRow=true:=by
 unfold joinedFacts
 exact ZJ (ZJ (ZJ (ZJ (ZJ (ZJ (ZJ (ZJ (ZJ (ZJ (ZJ (ZJ (ZJ (ZJ (ZJ (ZJ (ZJ (ZJ (ZJ (ZJ (ZJ (ZJ (ZJ (ZJ (ZJ (ZJ (ZJ (ZJ (ZJ (ZJ (ZJ (zWD) zNB) zWO) zWZ) zW2) zW3) zW4) zW5) zW6) zW7) zWE) zWF) zWG) zWH) zWI) zWJ) zWK) zWL) zWM) zWN) zWP) zWQ) zWR) zWS) zWT) zWU) zWV) zWW) zWX) zWY) zW0) zW1
end Go.Proofs.YtapdblnejhijnaaGreat
end
