/- The given contracts, together. Conditions: those of the texts named. -/
import Derived.Test.YtpkcbbjflcfdeaaText
import Derived.Test.YtpkcbbjflcfdeaaParse
