/- The given contracts, together. Conditions: those of the texts named. -/
import Derived.Test.YtpkcbbjflcfdeaaGreatText
import Derived.Test.YtpkcbbjflcfdeaaGreatParse
