/- Arguments and the second part of the laws of layer 6. Conditions: none. -/
import Derived.Test.YtbpihhaiechnbaaOp
import Derived.Test.YtbpihhaiechnbaaD11
import Derived.Test.YtbpihhaiechnbaaD12
namespace Go.Proofs.Ytbpihhaiechnbaa
end Go.Proofs.Ytbpihhaiechnbaa
