/- fuseelaw04.ScaleMakes: the scale of any number of cycles each second is the document's, and by how much it is wrong is what its cycles tell. Conditions: none beyond the statement's own. -/
import Derived.Test.YtfpheadbcemmiaaScF
namespace Go.Proofs.Ytfpheadbcemmiaa.Pure
open Go.RowKit Go.Proofs.Ytfpheadbcemmiaa.PSc
theorem ScaleMakes : fuseelaw04_ScaleMakes.Pure := fun a0 _ => ⟨80, Sc.makes_law a0⟩
end Go.Proofs.Ytfpheadbcemmiaa.Pure
