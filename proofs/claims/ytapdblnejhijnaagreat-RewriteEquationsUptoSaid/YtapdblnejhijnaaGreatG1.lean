/- Guards return. -/
import Derived.Test.YtapdblnejhijnaaGreatF4
set_option linter.all false
noncomputable section
namespace Go.Proofs.YtapdblnejhijnaaGreat.Eq
section
open Go Go.Ae
section
theorem Z03:ZGR Tryz.prog KD hint0 ZUe ZGS 200 ZWA=true:=by kernel_rfl
theorem Z1m:ZGR Tryz.prog KD hint0 ZUt ZGS 200 g81=true:=by kernel_rfl
theorem Z04:ZGR Tryz.prog KD hint0 ZUM ZGS 200 ZWB=true:=by kernel_rfl
theorem Z0V:ZGR Tryz.prog KD hint0 ZUu ZGS 200 g12=true:=by kernel_rfl
theorem Z0W:ZGR Tryz.prog KD hint0 ZUl ZGS 200 g13=true:=by kernel_rfl
theorem Z0X:ZGR Tryz.prog KD hint0 ZUm ZGS 200 ZWu=true:=by kernel_rfl
theorem Z0Y:ZGR Tryz.prog KD hint0 ZUn ZGS 200 ZWv=true:=by kernel_rfl
theorem Z1e:ZGR Tryz.prog KD hint0 ZUH ZGS 200 g33=true:=by kernel_rfl
end
section
theorem Z1h:ZGR Tryz.prog KD hint0 ZUo ZGS 200 g76=true:=by kernel_rfl
end
section
theorem Z1k:ZGR Tryz.prog KD hint0 ZUE ZGS 200 g79=true:=by kernel_rfl
theorem Z05:ZGR Tryz.prog KD hint0 ZUK ZGS 200 ZWC=true:=by kernel_rfl
end
section
theorem Z1l:ZGR Tryz.prog KD hint0 ZUv ZGS 200 g80=true:=by kernel_rfl
theorem Z1j:ZGR Tryz.prog KD hint0 ZUL ZGS 200 g78=true:=by kernel_rfl
end
section
theorem Z1g:ZGR Tryz.prog KD hint0 ZUJ ZGS 200 g35=true:=by kernel_rfl
theorem Z06:ZGR Tryz.prog KD hint0 ZUG ZGS 200 g14=true:=by kernel_rfl
end
section
theorem Z1b:ZGR Tryz.prog KD hint0 ZUw ZGS 200 ZWH=true:=by kernel_rfl
theorem Z08:ZGR Tryz.prog KD hint0 ZUB ZGS 200 ZWE=true:=by kernel_rfl
theorem Z07:ZGR Tryz.prog KD hint0 ZUy ZGS 200 ZWD=true:=by kernel_rfl
theorem Z0Z:ZGR Tryz.prog KD hint0 ZUx ZGS 200 ZWw=true:=by kernel_rfl
end
end
end Go.Proofs.YtapdblnejhijnaaGreat.Eq
end
