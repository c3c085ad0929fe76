/- The given contracts, together, with those of place, Clone and the model's Set. Conditions: those of the texts named. -/
import Derived.Test.YtpkcbbjflcfdeaaGiven
import Derived.Test.YtpkcbbjflcfdeaaPlace
import Derived.Test.YtpkcbbjflcfdeaaClone
import Derived.Test.YtpkcbbjflcfdeaaSetRef
