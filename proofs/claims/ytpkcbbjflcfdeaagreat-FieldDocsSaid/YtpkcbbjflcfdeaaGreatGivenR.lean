/- The given contracts, together, with that of Read. Conditions: those of the texts named. -/
import Derived.Test.YtpkcbbjflcfdeaaGreatGiven
import Derived.Test.YtpkcbbjflcfdeaaGreatRead
