/- What the law 'FnExactConstants' computes is true for every input; no condition. -/
import Derived.Test.YtbacmlbdgolcfaaMathB
import Derived.Test.YtbacmlbdgolcfaaPFnExactConstantsx1
namespace Go.Proofs.Ytbacmlbdgolcfaa.Pure
open Go Go.RowKit Go.Proofs.Ytbacmlbdgolcfaa.PFnExactConstants Go.Proofs.YtbacmlbdgolcfaaW.PrintWords Go.Proofs.YtbacmlbdgolcfaaW.PrintLast LeadWord

theorem FnExactConstants : laws_FnExactConstants.Pure := by
  unfold laws_FnExactConstants.Pure
  rfl

end Go.Proofs.Ytbacmlbdgolcfaa.Pure
